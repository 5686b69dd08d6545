/- Laws on which the proofs of this seat stand. No condition. -/
import Derived.Test.YtdmdpkoapllkkaaGreatK2
import Derived.Test.YtdmdpkoapllkkaaGreatProg
namespace Go.Proofs.YtdmdpkoapllkkaaGreat
open Go Go.Ab Go.Proofs
def td3 : TyD := { scal := true, zero := some [.int .i64 0] }
theorem tdok3 : TyOk Tryz.prog 3 td3 := ⟨(fun _ => by kernel_rfl), (fun n h => by cases h), (fun f o h => by simp [td3] at h), (fun x h => by cases h), (fun z h => by cases h; kernel_rfl), (fun z h u hu => by cases h; simp at hu; rcases hu with rfl <;> rfl), (fun x h => by cases h), (by intro h; cases h)⟩
def td4 : TyD := { scal := true, zero := some [.bool false] }
theorem tdok4 : TyOk Tryz.prog 4 td4 := ⟨(fun _ => by kernel_rfl), (fun n h => by cases h), (fun f o h => by simp [td4] at h), (fun x h => by cases h), (fun z h => by cases h; kernel_rfl), (fun z h u hu => by cases h; simp at hu; rcases hu with rfl <;> rfl), (fun x h => by cases h), (by intro h; cases h)⟩
def td5 : TyD := { scal := true, zero := some [.int .u8 0] }
theorem tdok5 : TyOk Tryz.prog 5 td5 := ⟨(fun _ => by kernel_rfl), (fun n h => by cases h), (fun f o h => by simp [td5] at h), (fun x h => by cases h), (fun z h => by cases h; kernel_rfl), (fun z h u hu => by cases h; simp at hu; rcases hu with rfl <;> rfl), (fun x h => by cases h), (by intro h; cases h)⟩
def td9 : TyD := { scal := true, str := true, zero := some [.string ByteArray.empty] }
theorem tdok9 : TyOk Tryz.prog 9 td9 := ⟨(fun _ => by kernel_rfl), (fun n h => by cases h), (fun f o h => by simp [td9] at h), (fun x h => by cases h), (fun z h => by cases h; kernel_rfl), (fun z h u hu => by cases h; simp at hu; rcases hu with rfl <;> rfl), (fun x h => by cases h), (fun _ => by kernel_rfl)⟩
def td22 : TyD := { scal := true, sl := some (121, 5, 40), zero := some [.slice none 0 0] }
theorem tdok22 : TyOk Tryz.prog 22 td22 := ⟨(fun _ => by kernel_rfl), (fun n h => by cases h), (fun f o h => by simp [td22] at h), (fun x h => by cases h; kernel_rfl), (fun z h => by cases h; kernel_rfl), (fun z h u hu => by cases h; simp at hu; rcases hu with rfl <;> rfl), (fun x h => by cases h), (by intro h; cases h)⟩
def td24 : TyD := { agg := some 1, fld := [0], pl := some [(0, 1)], zero := some [.slice none 0 0] }
theorem tdok24 : TyOk Tryz.prog 24 td24 := ⟨(by intro h; cases h), (fun n h => by cases h; kernel_rfl), (fun f o h => by
    match f, h with
    | 0, h => exact (show fldO Tryz.prog 24 0 = some 0 by kernel_rfl).trans h
    | f + 1, h => simp [td24] at h), (fun x h => by cases h), (fun z h => by cases h; kernel_rfl), (fun z h u hu => by cases h; simp at hu; rcases hu with rfl <;> rfl), (fun x h => by cases h; kernel_rfl), (by intro h; cases h)⟩
def td26 : TyD := { agg := some 5, fld := [0, 1, 2, 3, 4], pl := some [(0, 1), (1, 1), (2, 1), (3, 1), (4, 1)], zero := some [.int .i64 0, .int .i64 0, .int .i64 0, .int .i64 0, .int .i64 0] }
theorem tdok26 : TyOk Tryz.prog 26 td26 := ⟨(by intro h; cases h), (fun n h => by cases h; kernel_rfl), (fun f o h => by
    match f, h with
    | 0, h => exact (show fldO Tryz.prog 26 0 = some 0 by kernel_rfl).trans h
    | 1, h => exact (show fldO Tryz.prog 26 1 = some 1 by kernel_rfl).trans h
    | 2, h => exact (show fldO Tryz.prog 26 2 = some 2 by kernel_rfl).trans h
    | 3, h => exact (show fldO Tryz.prog 26 3 = some 3 by kernel_rfl).trans h
    | 4, h => exact (show fldO Tryz.prog 26 4 = some 4 by kernel_rfl).trans h
    | f + 5, h => simp [td26] at h), (fun x h => by cases h), (fun z h => by cases h; kernel_rfl), (fun z h u hu => by cases h; simp at hu; rcases hu with rfl | rfl | rfl | rfl | rfl <;> rfl), (fun x h => by cases h; kernel_rfl), (by intro h; cases h)⟩
def td27 : TyD := { scal := true, sl := some (29, 3, 24), zero := some [.slice none 0 0] }
theorem tdok27 : TyOk Tryz.prog 27 td27 := ⟨(fun _ => by kernel_rfl), (fun n h => by cases h), (fun f o h => by simp [td27] at h), (fun x h => by cases h; kernel_rfl), (fun z h => by cases h; kernel_rfl), (fun z h u hu => by cases h; simp at hu; rcases hu with rfl <;> rfl), (fun x h => by cases h), (by intro h; cases h)⟩
def td29 : TyD := { agg := some 3, fld := [0, 1, 2], pl := some [(0, 1), (1, 1), (2, 1)], zero := some [.int .i64 0, .int .i64 0, .int .i64 0] }
theorem tdok29 : TyOk Tryz.prog 29 td29 := ⟨(by intro h; cases h), (fun n h => by cases h; kernel_rfl), (fun f o h => by
    match f, h with
    | 0, h => exact (show fldO Tryz.prog 29 0 = some 0 by kernel_rfl).trans h
    | 1, h => exact (show fldO Tryz.prog 29 1 = some 1 by kernel_rfl).trans h
    | 2, h => exact (show fldO Tryz.prog 29 2 = some 2 by kernel_rfl).trans h
    | f + 3, h => simp [td29] at h), (fun x h => by cases h), (fun z h => by cases h; kernel_rfl), (fun z h u hu => by cases h; simp at hu; rcases hu with rfl | rfl | rfl <;> rfl), (fun x h => by cases h; kernel_rfl), (by intro h; cases h)⟩
def td31 : TyD := { agg := some 5, fld := [0, 1, 4], pl := some [(0, 1), (1, 3), (4, 1)], zero := some [.slice none 0 0, .int .i64 0, .int .i64 0, .int .i64 0, .bool false] }
theorem tdok31 : TyOk Tryz.prog 31 td31 := ⟨(by intro h; cases h), (fun n h => by cases h; kernel_rfl), (fun f o h => by
    match f, h with
    | 0, h => exact (show fldO Tryz.prog 31 0 = some 0 by kernel_rfl).trans h
    | 1, h => exact (show fldO Tryz.prog 31 1 = some 1 by kernel_rfl).trans h
    | 2, h => exact (show fldO Tryz.prog 31 2 = some 4 by kernel_rfl).trans h
    | f + 3, h => simp [td31] at h), (fun x h => by cases h), (fun z h => by cases h; kernel_rfl), (fun z h u hu => by cases h; simp at hu; rcases hu with rfl | rfl | rfl | rfl | rfl <;> rfl), (fun x h => by cases h; kernel_rfl), (by intro h; cases h)⟩
def td36 : TyD := { scal := true, sl := some (110, 3, 24), zero := some [.slice none 0 0] }
theorem tdok36 : TyOk Tryz.prog 36 td36 := ⟨(fun _ => by kernel_rfl), (fun n h => by cases h), (fun f o h => by simp [td36] at h), (fun x h => by cases h; kernel_rfl), (fun z h => by cases h; kernel_rfl), (fun z h u hu => by cases h; simp at hu; rcases hu with rfl <;> rfl), (fun x h => by cases h), (by intro h; cases h)⟩
def td37 : TyD := { scal := true, zero := some [.int .i64 0] }
theorem tdok37 : TyOk Tryz.prog 37 td37 := ⟨(fun _ => by kernel_rfl), (fun n h => by cases h), (fun f o h => by simp [td37] at h), (fun x h => by cases h), (fun z h => by cases h; kernel_rfl), (fun z h u hu => by cases h; simp at hu; rcases hu with rfl <;> rfl), (fun x h => by cases h), (by intro h; cases h)⟩
def td46 : TyD := { agg := some 2, fld := [0, 1], pl := some [(0, 1), (1, 1)], zero := some [.slice none 0 0, .int .i64 0] }
theorem tdok46 : TyOk Tryz.prog 46 td46 := ⟨(by intro h; cases h), (fun n h => by cases h; kernel_rfl), (fun f o h => by
    match f, h with
    | 0, h => exact (show fldO Tryz.prog 46 0 = some 0 by kernel_rfl).trans h
    | 1, h => exact (show fldO Tryz.prog 46 1 = some 1 by kernel_rfl).trans h
    | f + 2, h => simp [td46] at h), (fun x h => by cases h), (fun z h => by cases h; kernel_rfl), (fun z h u hu => by cases h; simp at hu; rcases hu with rfl | rfl <;> rfl), (fun x h => by cases h; kernel_rfl), (by intro h; cases h)⟩
def td47 : TyD := { scal := true, sl := some (46, 2, 32), zero := some [.slice none 0 0] }
theorem tdok47 : TyOk Tryz.prog 47 td47 := ⟨(fun _ => by kernel_rfl), (fun n h => by cases h), (fun f o h => by simp [td47] at h), (fun x h => by cases h; kernel_rfl), (fun z h => by cases h; kernel_rfl), (fun z h u hu => by cases h; simp at hu; rcases hu with rfl <;> rfl), (fun x h => by cases h), (by intro h; cases h)⟩
def td50 : TyD := { scal := true, sl := some (3, 1, 8), zero := some [.slice none 0 0] }
theorem tdok50 : TyOk Tryz.prog 50 td50 := ⟨(fun _ => by kernel_rfl), (fun n h => by cases h), (fun f o h => by simp [td50] at h), (fun x h => by cases h; kernel_rfl), (fun z h => by cases h; kernel_rfl), (fun z h u hu => by cases h; simp at hu; rcases hu with rfl <;> rfl), (fun x h => by cases h), (by intro h; cases h)⟩
def td57 : TyD := { scal := true, sl := some (26, 5, 40), zero := some [.slice none 0 0] }
theorem tdok57 : TyOk Tryz.prog 57 td57 := ⟨(fun _ => by kernel_rfl), (fun n h => by cases h), (fun f o h => by simp [td57] at h), (fun x h => by cases h; kernel_rfl), (fun z h => by cases h; kernel_rfl), (fun z h u hu => by cases h; simp at hu; rcases hu with rfl <;> rfl), (fun x h => by cases h), (by intro h; cases h)⟩
def td59 : TyD := { agg := some 4, fld := [0, 1, 2, 3], pl := some [(0, 1), (1, 1), (2, 1), (3, 1)], zero := some [.slice none 0 0, .int .i64 0, .int .i64 0, .int .i64 0] }
theorem tdok59 : TyOk Tryz.prog 59 td59 := ⟨(by intro h; cases h), (fun n h => by cases h; kernel_rfl), (fun f o h => by
    match f, h with
    | 0, h => exact (show fldO Tryz.prog 59 0 = some 0 by kernel_rfl).trans h
    | 1, h => exact (show fldO Tryz.prog 59 1 = some 1 by kernel_rfl).trans h
    | 2, h => exact (show fldO Tryz.prog 59 2 = some 2 by kernel_rfl).trans h
    | 3, h => exact (show fldO Tryz.prog 59 3 = some 3 by kernel_rfl).trans h
    | f + 4, h => simp [td59] at h), (fun x h => by cases h), (fun z h => by cases h; kernel_rfl), (fun z h u hu => by cases h; simp at hu; rcases hu with rfl | rfl | rfl | rfl <;> rfl), (fun x h => by cases h; kernel_rfl), (by intro h; cases h)⟩
def td60 : TyD := { scal := true, sl := some (67, 3, 40), zero := some [.slice none 0 0] }
theorem tdok60 : TyOk Tryz.prog 60 td60 := ⟨(fun _ => by kernel_rfl), (fun n h => by cases h), (fun f o h => by simp [td60] at h), (fun x h => by cases h; kernel_rfl), (fun z h => by cases h; kernel_rfl), (fun z h u hu => by cases h; simp at hu; rcases hu with rfl <;> rfl), (fun x h => by cases h), (by intro h; cases h)⟩
def td62 : TyD := { agg := some 2, fld := [0, 1], pl := some [(0, 1), (1, 1)], zero := some [.slice none 0 0, .slice none 0 0] }
theorem tdok62 : TyOk Tryz.prog 62 td62 := ⟨(by intro h; cases h), (fun n h => by cases h; kernel_rfl), (fun f o h => by
    match f, h with
    | 0, h => exact (show fldO Tryz.prog 62 0 = some 0 by kernel_rfl).trans h
    | 1, h => exact (show fldO Tryz.prog 62 1 = some 1 by kernel_rfl).trans h
    | f + 2, h => simp [td62] at h), (fun x h => by cases h), (fun z h => by cases h; kernel_rfl), (fun z h u hu => by cases h; simp at hu; rcases hu with rfl | rfl <;> rfl), (fun x h => by cases h; kernel_rfl), (by intro h; cases h)⟩
def td65 : TyD := { agg := some 2, fld := [0, 1], pl := some [(0, 1), (1, 1)], zero := some [.int .i64 0, .int .i64 0] }
theorem tdok65 : TyOk Tryz.prog 65 td65 := ⟨(by intro h; cases h), (fun n h => by cases h; kernel_rfl), (fun f o h => by
    match f, h with
    | 0, h => exact (show fldO Tryz.prog 65 0 = some 0 by kernel_rfl).trans h
    | 1, h => exact (show fldO Tryz.prog 65 1 = some 1 by kernel_rfl).trans h
    | f + 2, h => simp [td65] at h), (fun x h => by cases h), (fun z h => by cases h; kernel_rfl), (fun z h u hu => by cases h; simp at hu; rcases hu with rfl | rfl <;> rfl), (fun x h => by cases h; kernel_rfl), (by intro h; cases h)⟩
def td67 : TyD := { agg := some 3, fld := [0, 2], pl := some [(0, 2), (2, 1)], zero := some [.int .i64 0, .int .i64 0, .slice none 0 0] }
theorem tdok67 : TyOk Tryz.prog 67 td67 := ⟨(by intro h; cases h), (fun n h => by cases h; kernel_rfl), (fun f o h => by
    match f, h with
    | 0, h => exact (show fldO Tryz.prog 67 0 = some 0 by kernel_rfl).trans h
    | 1, h => exact (show fldO Tryz.prog 67 1 = some 2 by kernel_rfl).trans h
    | f + 2, h => simp [td67] at h), (fun x h => by cases h), (fun z h => by cases h; kernel_rfl), (fun z h u hu => by cases h; simp at hu; rcases hu with rfl | rfl | rfl <;> rfl), (fun x h => by cases h; kernel_rfl), (by intro h; cases h)⟩
def td83 : TyD := { scal := true, zero := some [.nilFunc] }
theorem tdok83 : TyOk Tryz.prog 83 td83 := ⟨(fun _ => by kernel_rfl), (fun n h => by cases h), (fun f o h => by simp [td83] at h), (fun x h => by cases h), (fun z h => by cases h; kernel_rfl), (fun z h u hu => by cases h; simp at hu; rcases hu with rfl <;> rfl), (fun x h => by cases h), (by intro h; cases h)⟩
def td94 : TyD := { agg := some 3, zero := some [.int .i64 0, .int .i64 0, .int .i64 0] }
theorem tdok94 : TyOk Tryz.prog 94 td94 := ⟨(by intro h; cases h), (fun n h => by cases h; kernel_rfl), (fun f o h => by simp [td94] at h), (fun x h => by cases h), (fun z h => by cases h; kernel_rfl), (fun z h u hu => by cases h; simp at hu; rcases hu with rfl | rfl | rfl <;> rfl), (fun x h => by cases h), (by intro h; cases h)⟩
def td96 : TyD := { agg := some 5, fld := [0, 1, 2], pl := some [(0, 1), (1, 1), (2, 3)], zero := some [.slice none 0 0, .slice none 0 0, .int .i64 0, .int .i64 0, .int .i64 0] }
theorem tdok96 : TyOk Tryz.prog 96 td96 := ⟨(by intro h; cases h), (fun n h => by cases h; kernel_rfl), (fun f o h => by
    match f, h with
    | 0, h => exact (show fldO Tryz.prog 96 0 = some 0 by kernel_rfl).trans h
    | 1, h => exact (show fldO Tryz.prog 96 1 = some 1 by kernel_rfl).trans h
    | 2, h => exact (show fldO Tryz.prog 96 2 = some 2 by kernel_rfl).trans h
    | f + 3, h => simp [td96] at h), (fun x h => by cases h), (fun z h => by cases h; kernel_rfl), (fun z h u hu => by cases h; simp at hu; rcases hu with rfl | rfl | rfl | rfl | rfl <;> rfl), (fun x h => by cases h; kernel_rfl), (by intro h; cases h)⟩
def td107 : TyD := { scal := true, sl := some (65, 2, 16), zero := some [.slice none 0 0] }
theorem tdok107 : TyOk Tryz.prog 107 td107 := ⟨(fun _ => by kernel_rfl), (fun n h => by cases h), (fun f o h => by simp [td107] at h), (fun x h => by cases h; kernel_rfl), (fun z h => by cases h; kernel_rfl), (fun z h u hu => by cases h; simp at hu; rcases hu with rfl <;> rfl), (fun x h => by cases h), (by intro h; cases h)⟩
def td110 : TyD := { agg := some 3, fld := [0, 1], pl := some [(0, 1), (1, 2)], zero := some [.int .i64 0, .int .i64 0, .int .i64 0] }
theorem tdok110 : TyOk Tryz.prog 110 td110 := ⟨(by intro h; cases h), (fun n h => by cases h; kernel_rfl), (fun f o h => by
    match f, h with
    | 0, h => exact (show fldO Tryz.prog 110 0 = some 0 by kernel_rfl).trans h
    | 1, h => exact (show fldO Tryz.prog 110 1 = some 1 by kernel_rfl).trans h
    | f + 2, h => simp [td110] at h), (fun x h => by cases h), (fun z h => by cases h; kernel_rfl), (fun z h u hu => by cases h; simp at hu; rcases hu with rfl | rfl | rfl <;> rfl), (fun x h => by cases h; kernel_rfl), (by intro h; cases h)⟩
def td112 : TyD := { scal := true, zero := some [.map none] }
theorem tdok112 : TyOk Tryz.prog 112 td112 := ⟨(fun _ => by kernel_rfl), (fun n h => by cases h), (fun f o h => by simp [td112] at h), (fun x h => by cases h), (fun z h => by cases h; kernel_rfl), (fun z h u hu => by cases h; simp at hu; rcases hu with rfl <;> rfl), (fun x h => by cases h), (by intro h; cases h)⟩
def td114 : TyD := { agg := some 2, fld := [0, 1], pl := some [(0, 1), (1, 1)], zero := some [.slice none 0 0, .map none] }
theorem tdok114 : TyOk Tryz.prog 114 td114 := ⟨(by intro h; cases h), (fun n h => by cases h; kernel_rfl), (fun f o h => by
    match f, h with
    | 0, h => exact (show fldO Tryz.prog 114 0 = some 0 by kernel_rfl).trans h
    | 1, h => exact (show fldO Tryz.prog 114 1 = some 1 by kernel_rfl).trans h
    | f + 2, h => simp [td114] at h), (fun x h => by cases h), (fun z h => by cases h; kernel_rfl), (fun z h u hu => by cases h; simp at hu; rcases hu with rfl | rfl <;> rfl), (fun x h => by cases h; kernel_rfl), (by intro h; cases h)⟩
def td121 : TyD := { agg := some 5, fld := [0, 1, 2, 3, 4], pl := some [(0, 1), (1, 1), (2, 1), (3, 1), (4, 1)], zero := some [.int .i64 0, .int .i64 0, .int .i64 0, .int .i64 0, .int .i64 0] }
theorem tdok121 : TyOk Tryz.prog 121 td121 := ⟨(by intro h; cases h), (fun n h => by cases h; kernel_rfl), (fun f o h => by
    match f, h with
    | 0, h => exact (show fldO Tryz.prog 121 0 = some 0 by kernel_rfl).trans h
    | 1, h => exact (show fldO Tryz.prog 121 1 = some 1 by kernel_rfl).trans h
    | 2, h => exact (show fldO Tryz.prog 121 2 = some 2 by kernel_rfl).trans h
    | 3, h => exact (show fldO Tryz.prog 121 3 = some 3 by kernel_rfl).trans h
    | 4, h => exact (show fldO Tryz.prog 121 4 = some 4 by kernel_rfl).trans h
    | f + 5, h => simp [td121] at h), (fun x h => by cases h), (fun z h => by cases h; kernel_rfl), (fun z h u hu => by cases h; simp at hu; rcases hu with rfl | rfl | rfl | rfl | rfl <;> rfl), (fun x h => by cases h; kernel_rfl), (by intro h; cases h)⟩
def td134 : TyD := { agg := some 6, fld := [0, 2], pl := some [(0, 2), (2, 4)], zero := some [.slice none 0 0, .map none, .slice none 0 0, .int .i64 0, .int .i64 0, .int .i64 0] }
theorem tdok134 : TyOk Tryz.prog 134 td134 := ⟨(by intro h; cases h), (fun n h => by cases h; kernel_rfl), (fun f o h => by
    match f, h with
    | 0, h => exact (show fldO Tryz.prog 134 0 = some 0 by kernel_rfl).trans h
    | 1, h => exact (show fldO Tryz.prog 134 1 = some 2 by kernel_rfl).trans h
    | f + 2, h => simp [td134] at h), (fun x h => by cases h), (fun z h => by cases h; kernel_rfl), (fun z h u hu => by cases h; simp at hu; rcases hu with rfl | rfl | rfl | rfl | rfl | rfl <;> rfl), (fun x h => by cases h; kernel_rfl), (by intro h; cases h)⟩
def td172 : TyD := { scal := true, sl := some (27, 1, 24), zero := some [.slice none 0 0] }
theorem tdok172 : TyOk Tryz.prog 172 td172 := ⟨(fun _ => by kernel_rfl), (fun n h => by cases h), (fun f o h => by simp [td172] at h), (fun x h => by cases h; kernel_rfl), (fun z h => by cases h; kernel_rfl), (fun z h u hu => by cases h; simp at hu; rcases hu with rfl <;> rfl), (fun x h => by cases h), (by intro h; cases h)⟩
def td175 : TyD := { scal := true, sl := some (37, 1, 8), zero := some [.slice none 0 0] }
theorem tdok175 : TyOk Tryz.prog 175 td175 := ⟨(fun _ => by kernel_rfl), (fun n h => by cases h), (fun f o h => by simp [td175] at h), (fun x h => by cases h; kernel_rfl), (fun z h => by cases h; kernel_rfl), (fun z h u hu => by cases h; simp at hu; rcases hu with rfl <;> rfl), (fun x h => by cases h), (by intro h; cases h)⟩
def td188 : TyD := { agg := some 2, fld := [0, 1], pl := some [(0, 1), (1, 1)], zero := some [.int .i64 0, .int .i64 0] }
theorem tdok188 : TyOk Tryz.prog 188 td188 := ⟨(by intro h; cases h), (fun n h => by cases h; kernel_rfl), (fun f o h => by
    match f, h with
    | 0, h => exact (show fldO Tryz.prog 188 0 = some 0 by kernel_rfl).trans h
    | 1, h => exact (show fldO Tryz.prog 188 1 = some 1 by kernel_rfl).trans h
    | f + 2, h => simp [td188] at h), (fun x h => by cases h), (fun z h => by cases h; kernel_rfl), (fun z h u hu => by cases h; simp at hu; rcases hu with rfl | rfl <;> rfl), (fun x h => by cases h; kernel_rfl), (by intro h; cases h)⟩
def td199 : TyD := { scal := true, zero := some [.int .u64 0] }
theorem tdok199 : TyOk Tryz.prog 199 td199 := ⟨(fun _ => by kernel_rfl), (fun n h => by cases h), (fun f o h => by simp [td199] at h), (fun x h => by cases h), (fun z h => by cases h; kernel_rfl), (fun z h u hu => by cases h; simp at hu; rcases hu with rfl <;> rfl), (fun x h => by cases h), (by intro h; cases h)⟩
def td206 : TyD := { agg := some 2, zero := some [.int .i64 0, .int .i64 0] }
theorem tdok206 : TyOk Tryz.prog 206 td206 := ⟨(by intro h; cases h), (fun n h => by cases h; kernel_rfl), (fun f o h => by simp [td206] at h), (fun x h => by cases h), (fun z h => by cases h; kernel_rfl), (fun z h u hu => by cases h; simp at hu; rcases hu with rfl | rfl <;> rfl), (fun x h => by cases h), (by intro h; cases h)⟩
def td208 : TyD := { scal := true, zero := some [.int .i64 0] }
theorem tdok208 : TyOk Tryz.prog 208 td208 := ⟨(fun _ => by kernel_rfl), (fun n h => by cases h), (fun f o h => by simp [td208] at h), (fun x h => by cases h), (fun z h => by cases h; kernel_rfl), (fun z h u hu => by cases h; simp at hu; rcases hu with rfl <;> rfl), (fun x h => by cases h), (by intro h; cases h)⟩
def td215 : TyD := { scal := true, zero := some [.int .u32 0] }
theorem tdok215 : TyOk Tryz.prog 215 td215 := ⟨(fun _ => by kernel_rfl), (fun n h => by cases h), (fun f o h => by simp [td215] at h), (fun x h => by cases h), (fun z h => by cases h; kernel_rfl), (fun z h u hu => by cases h; simp at hu; rcases hu with rfl <;> rfl), (fun x h => by cases h), (by intro h; cases h)⟩
def td217 : TyD := { scal := true, zero := some [.int .u64 0] }
theorem tdok217 : TyOk Tryz.prog 217 td217 := ⟨(fun _ => by kernel_rfl), (fun n h => by cases h), (fun f o h => by simp [td217] at h), (fun x h => by cases h), (fun z h => by cases h; kernel_rfl), (fun z h u hu => by cases h; simp at hu; rcases hu with rfl <;> rfl), (fun x h => by cases h), (by intro h; cases h)⟩
def td221 : TyD := { scal := true, zero := some [.int .u64 0] }
theorem tdok221 : TyOk Tryz.prog 221 td221 := ⟨(fun _ => by kernel_rfl), (fun n h => by cases h), (fun f o h => by simp [td221] at h), (fun x h => by cases h), (fun z h => by cases h; kernel_rfl), (fun z h u hu => by cases h; simp at hu; rcases hu with rfl <;> rfl), (fun x h => by cases h), (by intro h; cases h)⟩
theorem tdok_none (T : Nat) : TyOk Tryz.prog T {} := ⟨(by intro h; cases h), (fun n h => by cases h), (fun f o h => by simp at h), (fun x h => by cases h), (fun z h => by cases h), (fun z h => by cases h), (fun x h => by cases h), (by intro h; cases h)⟩
def tyT : Nat → TyD
  | 3 => td3
  | 4 => td4
  | 5 => td5
  | 9 => td9
  | 22 => td22
  | 24 => td24
  | 26 => td26
  | 27 => td27
  | 29 => td29
  | 31 => td31
  | 36 => td36
  | 37 => td37
  | 46 => td46
  | 47 => td47
  | 50 => td50
  | 57 => td57
  | 59 => td59
  | 60 => td60
  | 62 => td62
  | 65 => td65
  | 67 => td67
  | 83 => td83
  | 94 => td94
  | 96 => td96
  | 107 => td107
  | 110 => td110
  | 112 => td112
  | 114 => td114
  | 121 => td121
  | 134 => td134
  | 172 => td172
  | 175 => td175
  | 188 => td188
  | 199 => td199
  | 206 => td206
  | 208 => td208
  | 215 => td215
  | 217 => td217
  | 221 => td221
  | _ => {}
theorem tyT_ok (T : Nat) : TyOk Tryz.prog T (tyT T) := by
  unfold tyT
  split
  · exact tdok3
  · exact tdok4
  · exact tdok5
  · exact tdok9
  · exact tdok22
  · exact tdok24
  · exact tdok26
  · exact tdok27
  · exact tdok29
  · exact tdok31
  · exact tdok36
  · exact tdok37
  · exact tdok46
  · exact tdok47
  · exact tdok50
  · exact tdok57
  · exact tdok59
  · exact tdok60
  · exact tdok62
  · exact tdok65
  · exact tdok67
  · exact tdok83
  · exact tdok94
  · exact tdok96
  · exact tdok107
  · exact tdok110
  · exact tdok112
  · exact tdok114
  · exact tdok121
  · exact tdok134
  · exact tdok172
  · exact tdok175
  · exact tdok188
  · exact tdok199
  · exact tdok206
  · exact tdok208
  · exact tdok215
  · exact tdok217
  · exact tdok221
  · exact tdok_none _
def TY : Ty Tryz.prog := ⟨tyT, tyT_ok⟩
end Go.Proofs.YtdmdpkoapllkkaaGreat
namespace Go.Proofs.YtdmdpkoapllkkaaGreat
open Go Go.RowKit Go.Proofs Go.Shelf Go.Ab
theorem within_T (n lo hi : Int) (h : lo ≤ n ∧ n ≤ hi) : Summ Tryz.prog GG 100 [iv n, iv lo, iv hi] (.v (.bool true)) := by
  obtain ⟨h1, h2⟩ := h
  refine summW Tryz.func100 rfl rfl 15 rfl (by simp) (fun M0 => ?_)
  repeat (first
    | (apply s_a TY; exact rfl)
    | (apply s_t; exact rfl; (first | assumption | omega))
    | apply w_seq
    | apply w_region
    | apply s_nil
    | apply t_norm
    | apply w_ret)
  exact lv_ret (ret1 rfl (res_tmp rfl))
theorem within_F (n lo hi : Int) (h : ¬ (lo ≤ n ∧ n ≤ hi)) : Summ Tryz.prog GG 100 [iv n, iv lo, iv hi] (.v (.bool false)) := by
  by_cases h1 : lo ≤ n
  · have h2 : ¬ n ≤ hi := fun h2 => h ⟨h1, h2⟩
    refine summW Tryz.func100 rfl rfl 15 rfl (by simp) (fun M0 => ?_)
    repeat (first
    | (apply s_a TY; exact rfl)
    | (apply s_t; exact rfl; (first | assumption | omega))
    | (apply s_f; exact rfl; (first | assumption | omega))
    | apply w_seq
    | apply w_region
    | apply s_nil
    | apply t_norm
    | apply w_ret)
    exact lv_ret (ret1 rfl (res_tmp rfl))
  · refine summW Tryz.func100 rfl rfl 15 rfl (by simp) (fun M0 => ?_)
    repeat (first
    | (apply s_a TY; exact rfl)
    | (apply s_f; exact rfl; (first | assumption | omega))
    | apply w_seq
    | apply w_region
    | apply s_nil
    | apply t_norm
    | apply w_ret
    | (apply s_s; exact rfl))
    exact lv_ret (ret1 rfl (res_tmp rfl))
theorem within_s (n lo hi : Int) : Summ Tryz.prog GG 100 [iv n, iv lo, iv hi] (bv (withinB n lo hi)) := by
  by_cases h : lo ≤ n ∧ n ≤ hi
  · rw [show withinB n lo hi = true by simp [withinB, h]]; exact within_T n lo hi h
  · rw [show withinB n lo hi = false by simp [withinB]; omega]; exact within_F n lo hi h
theorem unless_T (k : Int) : Summ Tryz.prog GG 68 [.v (.bool true), iv k] (iv 0) := by
  refine summW Tryz.func68 rfl rfl 7 rfl (by simp) (fun M0 => ?_)
  repeat (first
    | (apply s_a TY; exact rfl)
    | apply w_seq
    | apply w_region
    | apply s_nil
    | apply t_norm
    | apply t_ret
    | apply w_ret
    | (apply w_condT; exact rfl; exact rfl))
  exact lv_ret (ret1 rfl (res_tmp rfl))
theorem unless_F (k : Int) : Summ Tryz.prog GG 68 [.v (.bool false), iv k] (iv k) := by
  refine summW Tryz.func68 rfl rfl 7 rfl (by simp) (fun M0 => ?_)
  repeat (first
    | (apply s_a TY; exact rfl)
    | apply w_seq
    | apply w_region
    | apply s_nil
    | apply t_norm
    | apply w_ret
    | apply w_skip
    | (apply w_condF; exact rfl; exact rfl))
  exact lv_ret (ret1 rfl (res_tmp rfl))
theorem unless_s (b : Bool) (k : Int) : Summ Tryz.prog GG 68 [bv b, iv k] (iv (unlessE b k)) := by
  cases b
  · exact unless_F k
  · exact unless_T k
set_option maxRecDepth 100000 in
theorem first_s (l : List Int) (hl : l.length ≤ 1000000) : Summ Tryz.prog GG 67 [.sl l.length (intsF l)] (iv (firstE l)) := by
  refine summW Tryz.func67 rfl rfl 15 rfl (by simp) (fun M0 => ?_)
  repeat (first
    | (apply s_a TY; exact rfl)
    | apply w_seq
    | apply w_region
    | apply s_nil
    | apply t_norm
    | apply w_block)
  apply w_loop (fun k : Nat => ⟨(Ab.upd (Ab.upd (Ab.upd (fun _ => .bot) 5 (.f (.sl l.length (intsF l)))) 6 (.f (iv l.length))) 7 (.f (iv (k : Nat)))), (fun _ => none), 0⟩) (fun k => k ≤ l.length ∧ ∀ j (hj : j < l.length), j < k → l[j] = 0) (fun k => l.length - k) 0 (⟨Nat.zero_le _, fun j _ h => absurd h (Nat.not_lt_zero j)⟩) (gh_le ⟨le_upd rfl trivial (le_upd rfl trivial (le_upd rfl trivial (le_nil _))), le_h0 _ _⟩)
  intro k ⟨hk, hz⟩
  by_cases hc : k < l.length
  · by_cases he : l[k] = 0
    · repeat (first
    | (apply s_a TY; exact rfl)
    | (apply s_t; exact rfl; (first | assumption | omega))
    | apply w_seq
    | apply w_region
    | apply s_nil
    | apply t_norm
    | apply k_norm
    | apply w_block
    | apply w_skip
    | (apply w_condT; exact rfl; exact rfl)
    | (apply w_condF; exact rfl; exact rfl)
    | (apply s_c TY; exact rfl; (first | omega | exact ⟨by omega, by (first | with_reducible assumption | ((with_reducible apply intsF_ne); omega) | assumption)⟩))
    | (apply s_l TY; exact rfl; (first | exact rfl | with_reducible assumption | ((with_reducible apply intsF_at); omega) | assumption)))
      exact ⟨k + 1, ⟨by omega, fun j hj hlt => by
        by_cases e : j = k
        · subst e; exact he
        · exact hz j hj (by omega)⟩, by omega, gh_le ⟨le_upd rfl trivial (le_upd rfl trivial (le_upd rfl trivial (le_nil _))), le_h0 _ _⟩⟩
    · rw [firstE_at hc (fun j hj hlt => hz j hj hlt) he]
      repeat (first
    | (apply s_a TY; exact rfl)
    | (apply s_t; exact rfl; (first | assumption | omega))
    | (apply s_f; exact rfl; (first | assumption | omega))
    | apply w_seq
    | apply w_region
    | apply s_nil
    | apply t_norm
    | apply t_ret
    | apply k_ret
    | apply w_block
    | apply w_ret
    | apply w_skip
    | (apply w_condT; exact rfl; exact rfl)
    | (apply s_c TY; exact rfl; (first | omega | exact ⟨by omega, by (first | with_reducible assumption | ((with_reducible apply intsF_ne); omega) | assumption)⟩))
    | (apply s_l TY; exact rfl; (first | exact rfl | with_reducible assumption | ((with_reducible apply intsF_at); omega) | assumption)))
      exact lv_ret (ret1 rfl (res_tmp rfl))
  · rw [firstE_zeros (fun j hj => hz j hj (by omega))]
    repeat (first
    | (apply s_a TY; exact rfl)
    | (apply s_f; exact rfl; (first | assumption | omega))
    | apply w_seq
    | apply w_region
    | apply s_nil
    | apply t_norm
    | apply t_exit
    | apply k_hit
    | apply w_exit
    | apply w_ret
    | (apply w_condF; exact rfl; exact rfl))
    exact lv_ret (ret1 rfl (res_tmp rfl))
theorem first2_s (a0 a1 : Int) : Summ Tryz.prog GG 67 [.sl 2 [iv a0, iv a1]] (iv (firstE [a0, a1])) := first_s [a0, a1] (by simp)
theorem first2_0 (a0 a1 : Int) (h : a0 ≠ 0) : Summ Tryz.prog GG 67 [.sl 2 [iv a0, iv a1]] (iv a0) := by
  have := first_s [a0, a1] (by simp)
  rwa [show firstE [a0, a1] = a0 by simp [firstE, h]] at this
theorem first2_1 (a0 a1 : Int) (h : a0 = 0) : Summ Tryz.prog GG 67 [.sl 2 [iv a0, iv a1]] (iv a1) := by
  have := first_s [a0, a1] (by simp)
  rwa [show firstE [a0, a1] = a1 by simp [firstE, h] <;> exact fun e => e.symm] at this
theorem first3_s (a0 a1 a2 : Int) : Summ Tryz.prog GG 67 [.sl 3 [iv a0, iv a1, iv a2]] (iv (firstE [a0, a1, a2])) := first_s [a0, a1, a2] (by simp)
theorem first4_0 (a0 a1 a2 a3 : Int) (h : a0 ≠ 0) : Summ Tryz.prog GG 67 [.sl 4 [iv a0, iv a1, iv a2, iv a3]] (iv a0) := by
  have := first_s [a0, a1, a2, a3] (by simp)
  rwa [show firstE [a0, a1, a2, a3] = a0 by simp [firstE, h]] at this
theorem first4_1 (a0 a1 a2 a3 : Int) (h : a0 = 0 ∧ a1 ≠ 0) : Summ Tryz.prog GG 67 [.sl 4 [iv a0, iv a1, iv a2, iv a3]] (iv a1) := by
  have := first_s [a0, a1, a2, a3] (by simp)
  rwa [show firstE [a0, a1, a2, a3] = a1 by simp [firstE, h]] at this
theorem first4_2 (a0 a1 a2 a3 : Int) (h : a0 = 0 ∧ a1 = 0 ∧ a2 ≠ 0) : Summ Tryz.prog GG 67 [.sl 4 [iv a0, iv a1, iv a2, iv a3]] (iv a2) := by
  have := first_s [a0, a1, a2, a3] (by simp)
  rwa [show firstE [a0, a1, a2, a3] = a2 by simp [firstE, h]] at this
theorem first4_3 (a0 a1 a2 a3 : Int) (h : a0 = 0 ∧ a1 = 0 ∧ a2 = 0) : Summ Tryz.prog GG 67 [.sl 4 [iv a0, iv a1, iv a2, iv a3]] (iv a3) := by
  have := first_s [a0, a1, a2, a3] (by simp)
  rwa [show firstE [a0, a1, a2, a3] = a3 by simp [firstE, h] <;> exact fun e => e.symm] at this
theorem bwithin_T (n lo hi : Int) (h : lo ≤ n ∧ n ≤ hi) : Summ Tryz.prog GG 51 [iv n, iv lo, iv hi] (.v (.bool true)) := by
  obtain ⟨h1, h2⟩ := h
  refine summW Tryz.func51 rfl rfl 15 rfl (by simp) (fun M0 => ?_)
  repeat (first
    | (apply s_a TY; exact rfl)
    | (apply s_t; exact rfl; (first | assumption | omega))
    | apply w_seq
    | apply w_region
    | apply s_nil
    | apply t_norm
    | apply w_ret)
  exact lv_ret (ret1 rfl (res_tmp rfl))
theorem bwithin_F (n lo hi : Int) (h : ¬ (lo ≤ n ∧ n ≤ hi)) : Summ Tryz.prog GG 51 [iv n, iv lo, iv hi] (.v (.bool false)) := by
  by_cases h1 : lo ≤ n
  · have h2 : ¬ n ≤ hi := fun h2 => h ⟨h1, h2⟩
    refine summW Tryz.func51 rfl rfl 15 rfl (by simp) (fun M0 => ?_)
    repeat (first
    | (apply s_a TY; exact rfl)
    | (apply s_t; exact rfl; (first | assumption | omega))
    | (apply s_f; exact rfl; (first | assumption | omega))
    | apply w_seq
    | apply w_region
    | apply s_nil
    | apply t_norm
    | apply w_ret)
    exact lv_ret (ret1 rfl (res_tmp rfl))
  · refine summW Tryz.func51 rfl rfl 15 rfl (by simp) (fun M0 => ?_)
    repeat (first
    | (apply s_a TY; exact rfl)
    | (apply s_f; exact rfl; (first | assumption | omega))
    | apply w_seq
    | apply w_region
    | apply s_nil
    | apply t_norm
    | apply w_ret
    | (apply s_s; exact rfl))
    exact lv_ret (ret1 rfl (res_tmp rfl))
theorem isNumber_T (n : Int) (h : 1 ≤ n ∧ n ≤ 100) : Summ Tryz.prog GG 140 [iv n] (.v (.bool true)) := by
  refine summW Tryz.func140 rfl rfl 5 rfl (by simp) (fun M0 => ?_)
  repeat (first
    | (apply s_a TY; exact rfl)
    | apply w_seq
    | apply w_region
    | apply s_nil
    | apply t_norm
    | apply w_ret
    | (apply s_k1 (within_T _ _ _); exact rfl; (first | assumption | omega | decide)))
  exact lv_ret (ret1 rfl (res_tmp rfl))
theorem isNumber_F (n : Int) (h : ¬ (1 ≤ n ∧ n ≤ 100)) : Summ Tryz.prog GG 140 [iv n] (.v (.bool false)) := by
  refine summW Tryz.func140 rfl rfl 5 rfl (by simp) (fun M0 => ?_)
  repeat (first
    | (apply s_a TY; exact rfl)
    | apply w_seq
    | apply w_region
    | apply s_nil
    | apply t_norm
    | apply w_ret
    | (apply s_k1 (within_F _ _ _); exact rfl; (first | assumption | omega | decide)))
  exact lv_ret (ret1 rfl (res_tmp rfl))
theorem isWindow_T (n : Int) (h : 0 ≤ n ∧ n ≤ 1000000) : Summ Tryz.prog GG 149 [iv n] (.v (.bool true)) := by
  refine summW Tryz.func149 rfl rfl 5 rfl (by simp) (fun M0 => ?_)
  repeat (first
    | (apply s_a TY; exact rfl)
    | apply w_seq
    | apply w_region
    | apply s_nil
    | apply t_norm
    | apply w_ret
    | (apply s_k1 (within_T _ _ _); exact rfl; (first | assumption | omega | decide)))
  exact lv_ret (ret1 rfl (res_tmp rfl))
theorem isWindow_F (n : Int) (h : ¬ (0 ≤ n ∧ n ≤ 1000000)) : Summ Tryz.prog GG 149 [iv n] (.v (.bool false)) := by
  refine summW Tryz.func149 rfl rfl 5 rfl (by simp) (fun M0 => ?_)
  repeat (first
    | (apply s_a TY; exact rfl)
    | apply w_seq
    | apply w_region
    | apply s_nil
    | apply t_norm
    | apply w_ret
    | (apply s_k1 (within_F _ _ _); exact rfl; (first | assumption | omega | decide)))
  exact lv_ret (ret1 rfl (res_tmp rfl))
theorem isWindow_s (n : Int) : Summ Tryz.prog GG 149 [iv n] (bv (withinB n 0 1000000)) := by
  by_cases h : 0 ≤ n ∧ n ≤ 1000000
  · rw [show withinB n 0 1000000 = true by simp [withinB, h]]; exact isWindow_T n h
  · rw [show withinB n 0 1000000 = false by simp [withinB]; omega]; exact isWindow_F n h
theorem isTick_T (n : Int) (h : 0 ≤ n ∧ n ≤ 1000000000000) : Summ Tryz.prog GG 116 [iv n] (.v (.bool true)) := by
  refine summW Tryz.func116 rfl rfl 5 rfl (by simp) (fun M0 => ?_)
  repeat (first
    | (apply s_a TY; exact rfl)
    | apply w_seq
    | apply w_region
    | apply s_nil
    | apply t_norm
    | apply w_ret
    | (apply s_k1 (within_T _ _ _); exact rfl; (first | assumption | omega | decide)))
  exact lv_ret (ret1 rfl (res_tmp rfl))
theorem isTick_F (n : Int) (h : ¬ (0 ≤ n ∧ n ≤ 1000000000000)) : Summ Tryz.prog GG 116 [iv n] (.v (.bool false)) := by
  refine summW Tryz.func116 rfl rfl 5 rfl (by simp) (fun M0 => ?_)
  repeat (first
    | (apply s_a TY; exact rfl)
    | apply w_seq
    | apply w_region
    | apply s_nil
    | apply t_norm
    | apply w_ret
    | (apply s_k1 (within_F _ _ _); exact rfl; (first | assumption | omega | decide)))
  exact lv_ret (ret1 rfl (res_tmp rfl))
theorem isTick_s (n : Int) : Summ Tryz.prog GG 116 [iv n] (bv (withinB n 0 1000000000000)) := by
  by_cases h : 0 ≤ n ∧ n ≤ 1000000000000
  · rw [show withinB n 0 1000000000000 = true by simp [withinB, h]]; exact isTick_T n h
  · rw [show withinB n 0 1000000000000 = false by simp [withinB]; omega]; exact isTick_F n h
theorem isPlace_T (n : Int) (h : -100000 ≤ n ∧ n ≤ 100000) : Summ Tryz.prog GG 137 [iv n] (.v (.bool true)) := by
  refine summW Tryz.func137 rfl rfl 5 rfl (by simp) (fun M0 => ?_)
  repeat (first
    | (apply s_a TY; exact rfl)
    | apply w_seq
    | apply w_region
    | apply s_nil
    | apply t_norm
    | apply w_ret
    | (apply s_k1 (within_T _ _ _); exact rfl; (first | assumption | omega | decide)))
  exact lv_ret (ret1 rfl (res_tmp rfl))
theorem isPlace_F (n : Int) (h : ¬ (-100000 ≤ n ∧ n ≤ 100000)) : Summ Tryz.prog GG 137 [iv n] (.v (.bool false)) := by
  refine summW Tryz.func137 rfl rfl 5 rfl (by simp) (fun M0 => ?_)
  repeat (first
    | (apply s_a TY; exact rfl)
    | apply w_seq
    | apply w_region
    | apply s_nil
    | apply t_norm
    | apply w_ret
    | (apply s_k1 (within_F _ _ _); exact rfl; (first | assumption | omega | decide)))
  exact lv_ret (ret1 rfl (res_tmp rfl))
theorem rIsNumber_T (n : Int) (h : 1 ≤ n ∧ n ≤ 100) : Summ Tryz.prog GG 144 [iv n] (.v (.bool true)) := by
  refine summW Tryz.func144 rfl rfl 5 rfl (by simp) (fun M0 => ?_)
  repeat (first
    | (apply s_a TY; exact rfl)
    | apply w_seq
    | apply w_region
    | apply s_nil
    | apply t_norm
    | apply w_ret
    | (apply s_k1 (bwithin_T _ _ _); exact rfl; (first | assumption | omega | decide)))
  exact lv_ret (ret1 rfl (res_tmp rfl))
theorem rIsNumber_F (n : Int) (h : ¬ (1 ≤ n ∧ n ≤ 100)) : Summ Tryz.prog GG 144 [iv n] (.v (.bool false)) := by
  refine summW Tryz.func144 rfl rfl 5 rfl (by simp) (fun M0 => ?_)
  repeat (first
    | (apply s_a TY; exact rfl)
    | apply w_seq
    | apply w_region
    | apply s_nil
    | apply t_norm
    | apply w_ret
    | (apply s_k1 (bwithin_F _ _ _); exact rfl; (first | assumption | omega | decide)))
  exact lv_ret (ret1 rfl (res_tmp rfl))
theorem rIsPlace_T (n : Int) (h : -100000 ≤ n ∧ n ≤ 100000) : Summ Tryz.prog GG 145 [iv n] (.v (.bool true)) := by
  refine summW Tryz.func145 rfl rfl 5 rfl (by simp) (fun M0 => ?_)
  repeat (first
    | (apply s_a TY; exact rfl)
    | apply w_seq
    | apply w_region
    | apply s_nil
    | apply t_norm
    | apply w_ret
    | (apply s_k1 (bwithin_T _ _ _); exact rfl; (first | assumption | omega | decide)))
  exact lv_ret (ret1 rfl (res_tmp rfl))
theorem rIsPlace_F (n : Int) (h : ¬ (-100000 ≤ n ∧ n ≤ 100000)) : Summ Tryz.prog GG 145 [iv n] (.v (.bool false)) := by
  refine summW Tryz.func145 rfl rfl 5 rfl (by simp) (fun M0 => ?_)
  repeat (first
    | (apply s_a TY; exact rfl)
    | apply w_seq
    | apply w_region
    | apply s_nil
    | apply t_norm
    | apply w_ret
    | (apply s_k1 (bwithin_F _ _ _); exact rfl; (first | assumption | omega | decide)))
  exact lv_ret (ret1 rfl (res_tmp rfl))
theorem rIsWindow_T (n : Int) (h : 0 ≤ n ∧ n ≤ 1000000) : Summ Tryz.prog GG 117 [iv n] (.v (.bool true)) := by
  refine summW Tryz.func117 rfl rfl 5 rfl (by simp) (fun M0 => ?_)
  repeat (first
    | (apply s_a TY; exact rfl)
    | apply w_seq
    | apply w_region
    | apply s_nil
    | apply t_norm
    | apply w_ret
    | (apply s_k1 (bwithin_T _ _ _); exact rfl; (first | assumption | omega | decide)))
  exact lv_ret (ret1 rfl (res_tmp rfl))
theorem rIsWindow_F (n : Int) (h : ¬ (0 ≤ n ∧ n ≤ 1000000)) : Summ Tryz.prog GG 117 [iv n] (.v (.bool false)) := by
  refine summW Tryz.func117 rfl rfl 5 rfl (by simp) (fun M0 => ?_)
  repeat (first
    | (apply s_a TY; exact rfl)
    | apply w_seq
    | apply w_region
    | apply s_nil
    | apply t_norm
    | apply w_ret
    | (apply s_k1 (bwithin_F _ _ _); exact rfl; (first | assumption | omega | decide)))
  exact lv_ret (ret1 rfl (res_tmp rfl))
theorem bIsTick_T (n : Int) (h : 0 ≤ n ∧ n ≤ 1000000000000) : Summ Tryz.prog GG 48 [iv n] (.v (.bool true)) := by
  refine summW Tryz.func48 rfl rfl 5 rfl (by simp) (fun M0 => ?_)
  repeat (first
    | (apply s_a TY; exact rfl)
    | apply w_seq
    | apply w_region
    | apply s_nil
    | apply t_norm
    | apply w_ret
    | (apply s_k1 (bwithin_T _ _ _); exact rfl; (first | assumption | omega | decide)))
  exact lv_ret (ret1 rfl (res_tmp rfl))
theorem bIsTick_F (n : Int) (h : ¬ (0 ≤ n ∧ n ≤ 1000000000000)) : Summ Tryz.prog GG 48 [iv n] (.v (.bool false)) := by
  refine summW Tryz.func48 rfl rfl 5 rfl (by simp) (fun M0 => ?_)
  repeat (first
    | (apply s_a TY; exact rfl)
    | apply w_seq
    | apply w_region
    | apply s_nil
    | apply t_norm
    | apply w_ret
    | (apply s_k1 (bwithin_F _ _ _); exact rfl; (first | assumption | omega | decide)))
  exact lv_ret (ret1 rfl (res_tmp rfl))
theorem isSized_T (n m : Int) (h : -m ≤ n ∧ n ≤ m) (hm : 0 ≤ m ∧ m ≤ 4000000000000) : Summ Tryz.prog GG 115 [iv n, iv m] (.v (.bool true)) := by
  refine summW Tryz.func115 rfl rfl 10 rfl (by simp) (fun M0 => ?_)
  repeat (first
    | (apply s_a TY; exact rfl)
    | apply w_seq
    | apply w_region
    | apply s_nil
    | apply t_norm
    | apply w_ret
    | (apply s_k1 (within_T _ _ _); exact rfl; (first | assumption | omega | decide))
    | (apply s_c TY; exact rfl; omega))
  exact lv_ret (ret1 rfl (res_tmp rfl))
theorem isSized_F (n m : Int) (h : ¬ (-m ≤ n ∧ n ≤ m)) (hm : 0 ≤ m ∧ m ≤ 4000000000000) : Summ Tryz.prog GG 115 [iv n, iv m] (.v (.bool false)) := by
  refine summW Tryz.func115 rfl rfl 10 rfl (by simp) (fun M0 => ?_)
  repeat (first
    | (apply s_a TY; exact rfl)
    | apply w_seq
    | apply w_region
    | apply s_nil
    | apply t_norm
    | apply w_ret
    | (apply s_k1 (within_F _ _ _); exact rfl; (first | assumption | omega | decide))
    | (apply s_c TY; exact rfl; omega))
  exact lv_ret (ret1 rfl (res_tmp rfl))
theorem isSized_s (n m : Int) (hm : 0 ≤ m ∧ m ≤ 4000000000000) : Summ Tryz.prog GG 115 [iv n, iv m] (bv (withinB n (-m) m)) := by
  by_cases h : -m ≤ n ∧ n ≤ m
  · rw [show withinB n (-m) m = true by simp [withinB, h]]; exact isSized_T n m h hm
  · rw [show withinB n (-m) m = false by simp [withinB]; omega]; exact isSized_F n m h hm
set_option maxRecDepth 100000 in
theorem eachRule_s (l : List Rule) (g : Nat) (caps : List FV) (er : Nat → Int) (hl : l.length ≤ 1000000) (hg : ∀ i (hi : i < l.length), Summ Tryz.prog GG g ([iv i, .agg (ruleF l[i])] ++ caps) (iv (er i))) : Summ Tryz.prog GG 147 [.sl l.length (rulesF l), .fn g caps] (.tup [iv (eachE l.length er).1, iv (eachE l.length er).2]) := by
  rcases eachE_cases l.length er with ⟨he, hz⟩ | ⟨q, hq, hz, hne, he⟩
  all_goals rw [he]
  · refine summW Tryz.func147 rfl rfl 25 rfl (by simp) (fun M0 => ?_)
    repeat (first
    | (apply s_a TY; exact rfl)
    | apply w_seq
    | apply w_region
    | apply s_nil
    | apply t_norm
    | apply w_block)
    apply w_loop (fun k : Nat => ⟨(Ab.upd (Ab.upd (Ab.upd (Ab.upd (fun _ => .bot) 1 (.f (.fn g caps))) 9 (.f (.sl l.length (rulesF l)))) 10 (.f (iv l.length))) 11 (.f (iv (k : Nat)))), (fun _ => none), 0⟩) (fun k => k ≤ l.length) (fun k => l.length - k) 0 (Nat.zero_le _) (gh_le ⟨le_upd rfl trivial (le_upd rfl trivial (le_upd rfl trivial (le_upd rfl trivial (le_nil _)))), le_h0 _ _⟩)
    intro k hk
    by_cases hc : k < l.length
    · have Hc := hg k hc
      rw [hz k hc] at Hc
      repeat (first
    | (apply s_a TY; exact rfl)
    | (apply s_t; exact rfl; (first | assumption | omega))
    | apply w_seq
    | apply w_region
    | apply s_nil
    | apply t_norm
    | apply k_norm
    | apply w_block
    | apply w_skip
    | (apply w_condT; exact rfl; exact rfl)
    | (apply w_condF; exact rfl; exact rfl)
    | (apply s_k (Hc); exact rfl)
    | (apply s_c TY; exact rfl; (first | omega | exact ⟨by omega, by (first | with_reducible assumption | ((with_reducible apply rulesF_ne); omega) | assumption)⟩))
    | (apply s_m TY; exact rfl; (first | with_reducible assumption | ((with_reducible apply rulesF_sub); omega) | exact rfl); exact rfl)
    | (apply s_alloc TY; exact rfl; exact rfl; exact rfl)
    | (apply s_store TY; exact rfl; exact rfl; exact rfl; exact rfl; exact rfl; exact rfl))
      exact ⟨k + 1, by omega, by omega, gh_le ⟨le_upd rfl trivial (le_upd rfl trivial (le_upd rfl trivial (le_upd rfl trivial (le_nil _)))), le_h0 _ _⟩⟩
    · repeat (first
    | (apply s_a TY; exact rfl)
    | (apply s_f; exact rfl; (first | assumption | omega))
    | apply w_seq
    | apply w_region
    | apply s_nil
    | apply t_norm
    | apply t_exit
    | apply k_hit
    | apply w_exit
    | apply w_ret
    | (apply w_condF; exact rfl; exact rfl))
      exact lv_ret (ret2 rfl (res_tmp rfl) (res_tmp rfl))
  · refine summW Tryz.func147 rfl rfl 25 rfl (by simp) (fun M0 => ?_)
    repeat (first
    | (apply s_a TY; exact rfl)
    | apply w_seq
    | apply w_region
    | apply s_nil
    | apply t_norm
    | apply w_block)
    apply w_loop (fun k : Nat => ⟨(Ab.upd (Ab.upd (Ab.upd (Ab.upd (fun _ => .bot) 1 (.f (.fn g caps))) 9 (.f (.sl l.length (rulesF l)))) 10 (.f (iv l.length))) 11 (.f (iv (k : Nat)))), (fun _ => none), 0⟩) (fun k => k ≤ q) (fun k => q - k) 0 (Nat.zero_le _) (gh_le ⟨le_upd rfl trivial (le_upd rfl trivial (le_upd rfl trivial (le_upd rfl trivial (le_nil _)))), le_h0 _ _⟩)
    intro k hk
    have hc : k < l.length := by omega
    have Hc := hg k hc
    by_cases hkq : k = q
    · subst hkq
      repeat (first
    | (apply s_a TY; exact rfl)
    | (apply s_t; exact rfl; (first | assumption | omega))
    | (apply s_f; exact rfl; (first | assumption | omega))
    | apply w_seq
    | apply w_region
    | apply s_nil
    | apply t_norm
    | apply t_ret
    | apply k_ret
    | apply w_block
    | apply w_ret
    | apply w_skip
    | (apply w_condT; exact rfl; exact rfl)
    | (apply s_k (Hc); exact rfl)
    | (apply s_c TY; exact rfl; (first | omega | exact ⟨by omega, by (first | with_reducible assumption | ((with_reducible apply rulesF_ne); omega) | assumption)⟩))
    | (apply s_m TY; exact rfl; (first | with_reducible assumption | ((with_reducible apply rulesF_sub); omega) | exact rfl); exact rfl)
    | (apply s_alloc TY; exact rfl; exact rfl; exact rfl)
    | (apply s_store TY; exact rfl; exact rfl; exact rfl; exact rfl; exact rfl; exact rfl))
      exact lv_ret (ret2 rfl (res_tmp rfl) (res_tmp rfl))
    · rw [hz k (by omega)] at Hc
      repeat (first
    | (apply s_a TY; exact rfl)
    | (apply s_t; exact rfl; (first | assumption | omega))
    | apply w_seq
    | apply w_region
    | apply s_nil
    | apply t_norm
    | apply k_norm
    | apply w_block
    | apply w_skip
    | (apply w_condT; exact rfl; exact rfl)
    | (apply w_condF; exact rfl; exact rfl)
    | (apply s_k (Hc); exact rfl)
    | (apply s_c TY; exact rfl; (first | omega | exact ⟨by omega, by (first | with_reducible assumption | ((with_reducible apply rulesF_ne); omega) | assumption)⟩))
    | (apply s_m TY; exact rfl; (first | with_reducible assumption | ((with_reducible apply rulesF_sub); omega) | exact rfl); exact rfl)
    | (apply s_alloc TY; exact rfl; exact rfl; exact rfl)
    | (apply s_store TY; exact rfl; exact rfl; exact rfl; exact rfl; exact rfl; exact rfl))
      exact ⟨k + 1, by omega, by omega, gh_le ⟨le_upd rfl trivial (le_upd rfl trivial (le_upd rfl trivial (le_upd rfl trivial (le_nil _)))), le_h0 _ _⟩⟩
set_option maxRecDepth 100000 in
theorem eachHit_s (l : List Hit) (g : Nat) (caps : List FV) (er : Nat → Int) (hl : l.length ≤ 1000000) (hg : ∀ i (hi : i < l.length), Summ Tryz.prog GG g ([iv i, .agg (hitF l[i])] ++ caps) (iv (er i))) : Summ Tryz.prog GG 150 [.sl l.length (hitsF l), .fn g caps] (.tup [iv (eachE l.length er).1, iv (eachE l.length er).2]) := by
  rcases eachE_cases l.length er with ⟨he, hz⟩ | ⟨q, hq, hz, hne, he⟩
  all_goals rw [he]
  · refine summW Tryz.func150 rfl rfl 25 rfl (by simp) (fun M0 => ?_)
    repeat (first
    | (apply s_a TY; exact rfl)
    | apply w_seq
    | apply w_region
    | apply s_nil
    | apply t_norm
    | apply w_block)
    apply w_loop (fun k : Nat => ⟨(Ab.upd (Ab.upd (Ab.upd (Ab.upd (fun _ => .bot) 1 (.f (.fn g caps))) 9 (.f (.sl l.length (hitsF l)))) 10 (.f (iv l.length))) 11 (.f (iv (k : Nat)))), (fun _ => none), 0⟩) (fun k => k ≤ l.length) (fun k => l.length - k) 0 (Nat.zero_le _) (gh_le ⟨le_upd rfl trivial (le_upd rfl trivial (le_upd rfl trivial (le_upd rfl trivial (le_nil _)))), le_h0 _ _⟩)
    intro k hk
    by_cases hc : k < l.length
    · have Hc := hg k hc
      rw [hz k hc] at Hc
      repeat (first
    | (apply s_a TY; exact rfl)
    | (apply s_t; exact rfl; (first | assumption | omega))
    | apply w_seq
    | apply w_region
    | apply s_nil
    | apply t_norm
    | apply k_norm
    | apply w_block
    | apply w_skip
    | (apply w_condT; exact rfl; exact rfl)
    | (apply w_condF; exact rfl; exact rfl)
    | (apply s_k (Hc); exact rfl)
    | (apply s_c TY; exact rfl; (first | omega | exact ⟨by omega, by (first | with_reducible assumption | ((with_reducible apply hitsF_ne); omega) | assumption)⟩))
    | (apply s_m TY; exact rfl; (first | with_reducible assumption | ((with_reducible apply hitsF_sub); omega) | exact rfl); exact rfl)
    | (apply s_alloc TY; exact rfl; exact rfl; exact rfl)
    | (apply s_store TY; exact rfl; exact rfl; exact rfl; exact rfl; exact rfl; exact rfl))
      exact ⟨k + 1, by omega, by omega, gh_le ⟨le_upd rfl trivial (le_upd rfl trivial (le_upd rfl trivial (le_upd rfl trivial (le_nil _)))), le_h0 _ _⟩⟩
    · repeat (first
    | (apply s_a TY; exact rfl)
    | (apply s_f; exact rfl; (first | assumption | omega))
    | apply w_seq
    | apply w_region
    | apply s_nil
    | apply t_norm
    | apply t_exit
    | apply k_hit
    | apply w_exit
    | apply w_ret
    | (apply w_condF; exact rfl; exact rfl))
      exact lv_ret (ret2 rfl (res_tmp rfl) (res_tmp rfl))
  · refine summW Tryz.func150 rfl rfl 25 rfl (by simp) (fun M0 => ?_)
    repeat (first
    | (apply s_a TY; exact rfl)
    | apply w_seq
    | apply w_region
    | apply s_nil
    | apply t_norm
    | apply w_block)
    apply w_loop (fun k : Nat => ⟨(Ab.upd (Ab.upd (Ab.upd (Ab.upd (fun _ => .bot) 1 (.f (.fn g caps))) 9 (.f (.sl l.length (hitsF l)))) 10 (.f (iv l.length))) 11 (.f (iv (k : Nat)))), (fun _ => none), 0⟩) (fun k => k ≤ q) (fun k => q - k) 0 (Nat.zero_le _) (gh_le ⟨le_upd rfl trivial (le_upd rfl trivial (le_upd rfl trivial (le_upd rfl trivial (le_nil _)))), le_h0 _ _⟩)
    intro k hk
    have hc : k < l.length := by omega
    have Hc := hg k hc
    by_cases hkq : k = q
    · subst hkq
      repeat (first
    | (apply s_a TY; exact rfl)
    | (apply s_t; exact rfl; (first | assumption | omega))
    | (apply s_f; exact rfl; (first | assumption | omega))
    | apply w_seq
    | apply w_region
    | apply s_nil
    | apply t_norm
    | apply t_ret
    | apply k_ret
    | apply w_block
    | apply w_ret
    | apply w_skip
    | (apply w_condT; exact rfl; exact rfl)
    | (apply s_k (Hc); exact rfl)
    | (apply s_c TY; exact rfl; (first | omega | exact ⟨by omega, by (first | with_reducible assumption | ((with_reducible apply hitsF_ne); omega) | assumption)⟩))
    | (apply s_m TY; exact rfl; (first | with_reducible assumption | ((with_reducible apply hitsF_sub); omega) | exact rfl); exact rfl)
    | (apply s_alloc TY; exact rfl; exact rfl; exact rfl)
    | (apply s_store TY; exact rfl; exact rfl; exact rfl; exact rfl; exact rfl; exact rfl))
      exact lv_ret (ret2 rfl (res_tmp rfl) (res_tmp rfl))
    · rw [hz k (by omega)] at Hc
      repeat (first
    | (apply s_a TY; exact rfl)
    | (apply s_t; exact rfl; (first | assumption | omega))
    | apply w_seq
    | apply w_region
    | apply s_nil
    | apply t_norm
    | apply k_norm
    | apply w_block
    | apply w_skip
    | (apply w_condT; exact rfl; exact rfl)
    | (apply w_condF; exact rfl; exact rfl)
    | (apply s_k (Hc); exact rfl)
    | (apply s_c TY; exact rfl; (first | omega | exact ⟨by omega, by (first | with_reducible assumption | ((with_reducible apply hitsF_ne); omega) | assumption)⟩))
    | (apply s_m TY; exact rfl; (first | with_reducible assumption | ((with_reducible apply hitsF_sub); omega) | exact rfl); exact rfl)
    | (apply s_alloc TY; exact rfl; exact rfl; exact rfl)
    | (apply s_store TY; exact rfl; exact rfl; exact rfl; exact rfl; exact rfl; exact rfl))
      exact ⟨k + 1, by omega, by omega, gh_le ⟨le_upd rfl trivial (le_upd rfl trivial (le_upd rfl trivial (le_upd rfl trivial (le_nil _)))), le_h0 _ _⟩⟩
set_option maxRecDepth 100000 in
theorem eachStm_s (l : List Stm) (g : Nat) (caps : List FV) (er : Nat → Int) (hl : l.length ≤ 1000000) (hg : ∀ i (hi : i < l.length), Summ Tryz.prog GG g ([iv i, .agg (stmF l[i])] ++ caps) (iv (er i))) : Summ Tryz.prog GG 141 [.sl l.length (stmsF l), .fn g caps] (.tup [iv (eachE l.length er).1, iv (eachE l.length er).2]) := by
  rcases eachE_cases l.length er with ⟨he, hz⟩ | ⟨q, hq, hz, hne, he⟩
  all_goals rw [he]
  · refine summW Tryz.func141 rfl rfl 25 rfl (by simp) (fun M0 => ?_)
    repeat (first
    | (apply s_a TY; exact rfl)
    | apply w_seq
    | apply w_region
    | apply s_nil
    | apply t_norm
    | apply w_block)
    apply w_loop (fun k : Nat => ⟨(Ab.upd (Ab.upd (Ab.upd (Ab.upd (fun _ => .bot) 1 (.f (.fn g caps))) 9 (.f (.sl l.length (stmsF l)))) 10 (.f (iv l.length))) 11 (.f (iv (k : Nat)))), (fun _ => none), 0⟩) (fun k => k ≤ l.length) (fun k => l.length - k) 0 (Nat.zero_le _) (gh_le ⟨le_upd rfl trivial (le_upd rfl trivial (le_upd rfl trivial (le_upd rfl trivial (le_nil _)))), le_h0 _ _⟩)
    intro k hk
    by_cases hc : k < l.length
    · have Hc := hg k hc
      rw [hz k hc] at Hc
      repeat (first
    | (apply s_a TY; exact rfl)
    | (apply s_t; exact rfl; (first | assumption | omega))
    | apply w_seq
    | apply w_region
    | apply s_nil
    | apply t_norm
    | apply k_norm
    | apply w_block
    | apply w_skip
    | (apply w_condT; exact rfl; exact rfl)
    | (apply w_condF; exact rfl; exact rfl)
    | (apply s_k (Hc); exact rfl)
    | (apply s_c TY; exact rfl; (first | omega | exact ⟨by omega, by (first | with_reducible assumption | ((with_reducible apply stmsF_ne); omega) | assumption)⟩))
    | (apply s_m TY; exact rfl; (first | with_reducible assumption | ((with_reducible apply stmsF_sub); omega) | exact rfl); exact rfl)
    | (apply s_alloc TY; exact rfl; exact rfl; exact rfl)
    | (apply s_store TY; exact rfl; exact rfl; exact rfl; exact rfl; exact rfl; exact rfl))
      exact ⟨k + 1, by omega, by omega, gh_le ⟨le_upd rfl trivial (le_upd rfl trivial (le_upd rfl trivial (le_upd rfl trivial (le_nil _)))), le_h0 _ _⟩⟩
    · repeat (first
    | (apply s_a TY; exact rfl)
    | (apply s_f; exact rfl; (first | assumption | omega))
    | apply w_seq
    | apply w_region
    | apply s_nil
    | apply t_norm
    | apply t_exit
    | apply k_hit
    | apply w_exit
    | apply w_ret
    | (apply w_condF; exact rfl; exact rfl))
      exact lv_ret (ret2 rfl (res_tmp rfl) (res_tmp rfl))
  · refine summW Tryz.func141 rfl rfl 25 rfl (by simp) (fun M0 => ?_)
    repeat (first
    | (apply s_a TY; exact rfl)
    | apply w_seq
    | apply w_region
    | apply s_nil
    | apply t_norm
    | apply w_block)
    apply w_loop (fun k : Nat => ⟨(Ab.upd (Ab.upd (Ab.upd (Ab.upd (fun _ => .bot) 1 (.f (.fn g caps))) 9 (.f (.sl l.length (stmsF l)))) 10 (.f (iv l.length))) 11 (.f (iv (k : Nat)))), (fun _ => none), 0⟩) (fun k => k ≤ q) (fun k => q - k) 0 (Nat.zero_le _) (gh_le ⟨le_upd rfl trivial (le_upd rfl trivial (le_upd rfl trivial (le_upd rfl trivial (le_nil _)))), le_h0 _ _⟩)
    intro k hk
    have hc : k < l.length := by omega
    have Hc := hg k hc
    by_cases hkq : k = q
    · subst hkq
      repeat (first
    | (apply s_a TY; exact rfl)
    | (apply s_t; exact rfl; (first | assumption | omega))
    | (apply s_f; exact rfl; (first | assumption | omega))
    | apply w_seq
    | apply w_region
    | apply s_nil
    | apply t_norm
    | apply t_ret
    | apply k_ret
    | apply w_block
    | apply w_ret
    | apply w_skip
    | (apply w_condT; exact rfl; exact rfl)
    | (apply s_k (Hc); exact rfl)
    | (apply s_c TY; exact rfl; (first | omega | exact ⟨by omega, by (first | with_reducible assumption | ((with_reducible apply stmsF_ne); omega) | assumption)⟩))
    | (apply s_m TY; exact rfl; (first | with_reducible assumption | ((with_reducible apply stmsF_sub); omega) | exact rfl); exact rfl)
    | (apply s_alloc TY; exact rfl; exact rfl; exact rfl)
    | (apply s_store TY; exact rfl; exact rfl; exact rfl; exact rfl; exact rfl; exact rfl))
      exact lv_ret (ret2 rfl (res_tmp rfl) (res_tmp rfl))
    · rw [hz k (by omega)] at Hc
      repeat (first
    | (apply s_a TY; exact rfl)
    | (apply s_t; exact rfl; (first | assumption | omega))
    | apply w_seq
    | apply w_region
    | apply s_nil
    | apply t_norm
    | apply k_norm
    | apply w_block
    | apply w_skip
    | (apply w_condT; exact rfl; exact rfl)
    | (apply w_condF; exact rfl; exact rfl)
    | (apply s_k (Hc); exact rfl)
    | (apply s_c TY; exact rfl; (first | omega | exact ⟨by omega, by (first | with_reducible assumption | ((with_reducible apply stmsF_ne); omega) | assumption)⟩))
    | (apply s_m TY; exact rfl; (first | with_reducible assumption | ((with_reducible apply stmsF_sub); omega) | exact rfl); exact rfl)
    | (apply s_alloc TY; exact rfl; exact rfl; exact rfl)
    | (apply s_store TY; exact rfl; exact rfl; exact rfl; exact rfl; exact rfl; exact rfl))
      exact ⟨k + 1, by omega, by omega, gh_le ⟨le_upd rfl trivial (le_upd rfl trivial (le_upd rfl trivial (le_upd rfl trivial (le_nil _)))), le_h0 _ _⟩⟩
end Go.Proofs.YtdmdpkoapllkkaaGreat
namespace Go.Proofs.YtdmdpkoapllkkaaGreat
open Go Go.RowKit Go.Proofs Go.Shelf Go.Ab
def ruleErr (r : Rule) : Int :=
  if ¬ (0 ≤ r.kind ∧ r.kind ≤ 3) then 15
  else if ¬ (1 ≤ r.count ∧ r.count ≤ 40) ∨ ¬ (0 ≤ r.window ∧ r.window ≤ 1000000) ∨ ¬ (0 ≤ r.reach ∧ r.reach ≤ 1000000) ∨ ¬ (0 ≤ r.height ∧ r.height ≤ 1000000) then 2
  else if r.kind = 3 ∧ r.window < r.reach then 9 else 0
def setupChk (s : Setup) : Nat × Int :=
  if s.rules.length = 0 then (0, 10) else if 4 < s.rules.length then (0, 8)
  else if (eachE s.rules.length fun i => ruleErr (s.rules.getD i default)).2 ≠ 0 then eachE s.rules.length fun i => ruleErr (s.rules.getD i default)
  else if ¬ (0 ≤ s.before ∧ s.before ≤ 1000000) ∨ ¬ (0 ≤ s.after ∧ s.after ≤ 1000000) ∨ ¬ (0 ≤ s.dead ∧ s.dead ≤ 1000000) then (0, 2) else (0, 0)
theorem getD_at {α : Type} [Inhabited α] {l : List α} {i : Nat} (h : i < l.length) : l.getD i default = l[i] := by simp [List.getD_eq_getElem?_getD, List.getElem?_eq_getElem h]
set_option maxRecDepth 100000 in
theorem CheckRule_s (r : Rule) : Summ Tryz.prog GG 118 [.agg (ruleF r)] (iv (ruleErr r)) := by
  by_cases hk : 0 ≤ r.kind ∧ r.kind ≤ 3
  · by_cases hc : 1 ≤ r.count ∧ r.count ≤ 40
    · by_cases hw : 0 ≤ r.window ∧ r.window ≤ 1000000
      · by_cases hr : 0 ≤ r.reach ∧ r.reach ≤ 1000000
        · by_cases hh : 0 ≤ r.height ∧ r.height ≤ 1000000
          · by_cases hk3 : r.kind = 3
            · by_cases hrw : r.reach ≤ r.window
              · rw [show ruleErr r = 0 by unfold ruleErr; repeat (first | omega | split)]
                refine summW Tryz.func118 rfl rfl 38 rfl (by simp) (fun M0 => ?_)
                repeat (first
    | (apply s_a TY; exact rfl)
    | (apply s_t; exact rfl; (first | assumption | omega))
    | apply w_seq
    | apply w_region
    | (apply w_draw (id := 1) 30 rfl (by kernel_rfl))
    | apply s_nil
    | apply t_norm
    | apply w_ret
    | (apply s_k1 (first4_3 _ _ _ _); exact rfl; (first | assumption | omega | decide))
    | (apply s_k (unless_T _); exact rfl)
    | (apply s_k1 (within_T _ _ _); exact rfl; (first | assumption | omega | decide))
    | (apply s_k1 (isWindow_T _); exact rfl; (first | assumption | omega | decide)))
                exact lv_ret (ret1 rfl (res_tmp rfl))
              · rw [show ruleErr r = 9 by unfold ruleErr; repeat (first | omega | split)]
                refine summW Tryz.func118 rfl rfl 38 rfl (by simp) (fun M0 => ?_)
                repeat (first
    | (apply s_a TY; exact rfl)
    | (apply s_t; exact rfl; (first | assumption | omega))
    | (apply s_f; exact rfl; (first | assumption | omega))
    | apply w_seq
    | apply w_region
    | (apply w_draw (id := 1) 30 rfl (by kernel_rfl))
    | apply s_nil
    | apply t_norm
    | apply w_ret
    | (apply s_k1 (first4_3 _ _ _ _); exact rfl; (first | assumption | omega | decide))
    | (apply s_k (unless_T _); exact rfl)
    | (apply s_k (unless_F _); exact rfl)
    | (apply s_k1 (within_T _ _ _); exact rfl; (first | assumption | omega | decide))
    | (apply s_k1 (isWindow_T _); exact rfl; (first | assumption | omega | decide)))
                exact lv_ret (ret1 rfl (res_tmp rfl))
            · rw [show ruleErr r = 0 by unfold ruleErr; repeat (first | omega | split)]
              refine summW Tryz.func118 rfl rfl 38 rfl (by simp) (fun M0 => ?_)
              repeat (first
    | (apply s_a TY; exact rfl)
    | (apply s_f; exact rfl; (first | assumption | omega))
    | apply w_seq
    | apply w_region
    | (apply w_draw (id := 1) 30 rfl (by kernel_rfl))
    | apply s_nil
    | apply t_norm
    | apply w_ret
    | (apply s_k1 (first4_3 _ _ _ _); exact rfl; (first | assumption | omega | decide))
    | (apply s_k (unless_T _); exact rfl)
    | (apply s_k1 (within_T _ _ _); exact rfl; (first | assumption | omega | decide))
    | (apply s_k1 (isWindow_T _); exact rfl; (first | assumption | omega | decide))
    | (apply s_s; exact rfl))
              exact lv_ret (ret1 rfl (res_tmp rfl))
          · by_cases hk3 : r.kind = 3
            · by_cases hrw : r.reach ≤ r.window
              · rw [show ruleErr r = 2 by unfold ruleErr; repeat (first | omega | split)]
                refine summW Tryz.func118 rfl rfl 38 rfl (by simp) (fun M0 => ?_)
                repeat (first
    | (apply s_a TY; exact rfl)
    | (apply s_t; exact rfl; (first | assumption | omega))
    | apply w_seq
    | apply w_region
    | (apply w_draw (id := 1) 30 rfl (by kernel_rfl))
    | apply s_nil
    | apply t_norm
    | apply w_ret
    | (apply s_k1 (first4_2 _ _ _ _); exact rfl; (first | assumption | omega | decide))
    | (apply s_k (unless_T _); exact rfl)
    | (apply s_k (unless_F _); exact rfl)
    | (apply s_k1 (within_T _ _ _); exact rfl; (first | assumption | omega | decide))
    | (apply s_k1 (isWindow_T _); exact rfl; (first | assumption | omega | decide))
    | (apply s_k1 (isWindow_F _); exact rfl; (first | assumption | omega | decide)))
                exact lv_ret (ret1 rfl (res_tmp rfl))
              · rw [show ruleErr r = 2 by unfold ruleErr; repeat (first | omega | split)]
                refine summW Tryz.func118 rfl rfl 38 rfl (by simp) (fun M0 => ?_)
                repeat (first
    | (apply s_a TY; exact rfl)
    | (apply s_t; exact rfl; (first | assumption | omega))
    | (apply s_f; exact rfl; (first | assumption | omega))
    | apply w_seq
    | apply w_region
    | (apply w_draw (id := 1) 30 rfl (by kernel_rfl))
    | apply s_nil
    | apply t_norm
    | apply w_ret
    | (apply s_k1 (first4_2 _ _ _ _); exact rfl; (first | assumption | omega | decide))
    | (apply s_k (unless_T _); exact rfl)
    | (apply s_k (unless_F _); exact rfl)
    | (apply s_k1 (within_T _ _ _); exact rfl; (first | assumption | omega | decide))
    | (apply s_k1 (isWindow_T _); exact rfl; (first | assumption | omega | decide))
    | (apply s_k1 (isWindow_F _); exact rfl; (first | assumption | omega | decide)))
                exact lv_ret (ret1 rfl (res_tmp rfl))
            · rw [show ruleErr r = 2 by unfold ruleErr; repeat (first | omega | split)]
              refine summW Tryz.func118 rfl rfl 38 rfl (by simp) (fun M0 => ?_)
              repeat (first
    | (apply s_a TY; exact rfl)
    | (apply s_f; exact rfl; (first | assumption | omega))
    | apply w_seq
    | apply w_region
    | (apply w_draw (id := 1) 30 rfl (by kernel_rfl))
    | apply s_nil
    | apply t_norm
    | apply w_ret
    | (apply s_k1 (first4_2 _ _ _ _); exact rfl; (first | assumption | omega | decide))
    | (apply s_k (unless_T _); exact rfl)
    | (apply s_k (unless_F _); exact rfl)
    | (apply s_k1 (within_T _ _ _); exact rfl; (first | assumption | omega | decide))
    | (apply s_k1 (isWindow_T _); exact rfl; (first | assumption | omega | decide))
    | (apply s_k1 (isWindow_F _); exact rfl; (first | assumption | omega | decide))
    | (apply s_s; exact rfl))
              exact lv_ret (ret1 rfl (res_tmp rfl))
        · by_cases hk3 : r.kind = 3
          · by_cases hrw : r.reach ≤ r.window
            · rw [show ruleErr r = 2 by unfold ruleErr; repeat (first | omega | split)]
              refine summW Tryz.func118 rfl rfl 38 rfl (by simp) (fun M0 => ?_)
              repeat (first
    | (apply s_a TY; exact rfl)
    | (apply s_t; exact rfl; (first | assumption | omega))
    | apply w_seq
    | apply w_region
    | (apply w_draw (id := 1) 30 rfl (by kernel_rfl))
    | apply s_nil
    | apply t_norm
    | apply w_ret
    | (apply s_k1 (first4_2 _ _ _ _); exact rfl; (first | assumption | omega | decide))
    | (apply s_k (unless_T _); exact rfl)
    | (apply s_k (unless_F _); exact rfl)
    | (apply s_k1 (within_T _ _ _); exact rfl; (first | assumption | omega | decide))
    | (apply s_k1 (isWindow_T _); exact rfl; (first | assumption | omega | decide))
    | (apply s_k1 (isWindow_F _); exact rfl; (first | assumption | omega | decide))
    | (apply s_s; exact rfl))
              exact lv_ret (ret1 rfl (res_tmp rfl))
            · rw [show ruleErr r = 2 by unfold ruleErr; repeat (first | omega | split)]
              refine summW Tryz.func118 rfl rfl 38 rfl (by simp) (fun M0 => ?_)
              repeat (first
    | (apply s_a TY; exact rfl)
    | (apply s_t; exact rfl; (first | assumption | omega))
    | (apply s_f; exact rfl; (first | assumption | omega))
    | apply w_seq
    | apply w_region
    | (apply w_draw (id := 1) 30 rfl (by kernel_rfl))
    | apply s_nil
    | apply t_norm
    | apply w_ret
    | (apply s_k1 (first4_2 _ _ _ _); exact rfl; (first | assumption | omega | decide))
    | (apply s_k (unless_T _); exact rfl)
    | (apply s_k (unless_F _); exact rfl)
    | (apply s_k1 (within_T _ _ _); exact rfl; (first | assumption | omega | decide))
    | (apply s_k1 (isWindow_T _); exact rfl; (first | assumption | omega | decide))
    | (apply s_k1 (isWindow_F _); exact rfl; (first | assumption | omega | decide))
    | (apply s_s; exact rfl))
              exact lv_ret (ret1 rfl (res_tmp rfl))
          · rw [show ruleErr r = 2 by unfold ruleErr; repeat (first | omega | split)]
            refine summW Tryz.func118 rfl rfl 38 rfl (by simp) (fun M0 => ?_)
            repeat (first
    | (apply s_a TY; exact rfl)
    | (apply s_f; exact rfl; (first | assumption | omega))
    | apply w_seq
    | apply w_region
    | (apply w_draw (id := 1) 30 rfl (by kernel_rfl))
    | apply s_nil
    | apply t_norm
    | apply w_ret
    | (apply s_k1 (first4_2 _ _ _ _); exact rfl; (first | assumption | omega | decide))
    | (apply s_k (unless_T _); exact rfl)
    | (apply s_k (unless_F _); exact rfl)
    | (apply s_k1 (within_T _ _ _); exact rfl; (first | assumption | omega | decide))
    | (apply s_k1 (isWindow_T _); exact rfl; (first | assumption | omega | decide))
    | (apply s_k1 (isWindow_F _); exact rfl; (first | assumption | omega | decide))
    | (apply s_s; exact rfl))
            exact lv_ret (ret1 rfl (res_tmp rfl))
      · by_cases hr : 0 ≤ r.reach ∧ r.reach ≤ 1000000
        · by_cases hk3 : r.kind = 3
          · by_cases hrw : r.reach ≤ r.window
            · rw [show ruleErr r = 2 by unfold ruleErr; repeat (first | omega | split)]
              refine summW Tryz.func118 rfl rfl 38 rfl (by simp) (fun M0 => ?_)
              repeat (first
    | (apply s_a TY; exact rfl)
    | (apply s_t; exact rfl; (first | assumption | omega))
    | apply w_seq
    | apply w_region
    | (apply w_draw (id := 1) 30 rfl (by kernel_rfl))
    | apply s_nil
    | apply t_norm
    | apply w_ret
    | (apply s_k1 (first4_1 _ _ _ _); exact rfl; (first | assumption | omega | decide))
    | (apply s_k (unless_T _); exact rfl)
    | (apply s_k (unless_F _); exact rfl)
    | (apply s_k (unless_s _ _); exact rfl)
    | (apply s_k1 (within_T _ _ _); exact rfl; (first | assumption | omega | decide))
    | (apply s_k1 (isWindow_T _); exact rfl; (first | assumption | omega | decide))
    | (apply s_k1 (isWindow_F _); exact rfl; (first | assumption | omega | decide))
    | (apply s_k (isWindow_s _); exact rfl))
              exact lv_ret (ret1 rfl (res_tmp rfl))
            · rw [show ruleErr r = 2 by unfold ruleErr; repeat (first | omega | split)]
              refine summW Tryz.func118 rfl rfl 38 rfl (by simp) (fun M0 => ?_)
              repeat (first
    | (apply s_a TY; exact rfl)
    | (apply s_t; exact rfl; (first | assumption | omega))
    | (apply s_f; exact rfl; (first | assumption | omega))
    | apply w_seq
    | apply w_region
    | (apply w_draw (id := 1) 30 rfl (by kernel_rfl))
    | apply s_nil
    | apply t_norm
    | apply w_ret
    | (apply s_k1 (first4_1 _ _ _ _); exact rfl; (first | assumption | omega | decide))
    | (apply s_k (unless_T _); exact rfl)
    | (apply s_k (unless_F _); exact rfl)
    | (apply s_k (unless_s _ _); exact rfl)
    | (apply s_k1 (within_T _ _ _); exact rfl; (first | assumption | omega | decide))
    | (apply s_k1 (isWindow_T _); exact rfl; (first | assumption | omega | decide))
    | (apply s_k1 (isWindow_F _); exact rfl; (first | assumption | omega | decide))
    | (apply s_k (isWindow_s _); exact rfl))
              exact lv_ret (ret1 rfl (res_tmp rfl))
          · rw [show ruleErr r = 2 by unfold ruleErr; repeat (first | omega | split)]
            refine summW Tryz.func118 rfl rfl 38 rfl (by simp) (fun M0 => ?_)
            repeat (first
    | (apply s_a TY; exact rfl)
    | (apply s_f; exact rfl; (first | assumption | omega))
    | apply w_seq
    | apply w_region
    | (apply w_draw (id := 1) 30 rfl (by kernel_rfl))
    | apply s_nil
    | apply t_norm
    | apply w_ret
    | (apply s_k1 (first4_1 _ _ _ _); exact rfl; (first | assumption | omega | decide))
    | (apply s_k (unless_T _); exact rfl)
    | (apply s_k (unless_F _); exact rfl)
    | (apply s_k (unless_s _ _); exact rfl)
    | (apply s_k1 (within_T _ _ _); exact rfl; (first | assumption | omega | decide))
    | (apply s_k1 (isWindow_T _); exact rfl; (first | assumption | omega | decide))
    | (apply s_k1 (isWindow_F _); exact rfl; (first | assumption | omega | decide))
    | (apply s_k (isWindow_s _); exact rfl)
    | (apply s_s; exact rfl))
            exact lv_ret (ret1 rfl (res_tmp rfl))
        · by_cases hk3 : r.kind = 3
          · by_cases hrw : r.reach ≤ r.window
            · rw [show ruleErr r = 2 by unfold ruleErr; repeat (first | omega | split)]
              refine summW Tryz.func118 rfl rfl 38 rfl (by simp) (fun M0 => ?_)
              repeat (first
    | (apply s_a TY; exact rfl)
    | (apply s_t; exact rfl; (first | assumption | omega))
    | apply w_seq
    | apply w_region
    | (apply w_draw (id := 1) 30 rfl (by kernel_rfl))
    | apply s_nil
    | apply t_norm
    | apply w_ret
    | (apply s_k1 (first4_1 _ _ _ _); exact rfl; (first | assumption | omega | decide))
    | (apply s_k (unless_T _); exact rfl)
    | (apply s_k (unless_F _); exact rfl)
    | (apply s_k1 (within_T _ _ _); exact rfl; (first | assumption | omega | decide))
    | (apply s_k1 (isWindow_F _); exact rfl; (first | assumption | omega | decide))
    | (apply s_s; exact rfl))
              exact lv_ret (ret1 rfl (res_tmp rfl))
            · rw [show ruleErr r = 2 by unfold ruleErr; repeat (first | omega | split)]
              refine summW Tryz.func118 rfl rfl 38 rfl (by simp) (fun M0 => ?_)
              repeat (first
    | (apply s_a TY; exact rfl)
    | (apply s_t; exact rfl; (first | assumption | omega))
    | (apply s_f; exact rfl; (first | assumption | omega))
    | apply w_seq
    | apply w_region
    | (apply w_draw (id := 1) 30 rfl (by kernel_rfl))
    | apply s_nil
    | apply t_norm
    | apply w_ret
    | (apply s_k1 (first4_1 _ _ _ _); exact rfl; (first | assumption | omega | decide))
    | (apply s_k (unless_T _); exact rfl)
    | (apply s_k (unless_F _); exact rfl)
    | (apply s_k1 (within_T _ _ _); exact rfl; (first | assumption | omega | decide))
    | (apply s_k1 (isWindow_F _); exact rfl; (first | assumption | omega | decide))
    | (apply s_s; exact rfl))
              exact lv_ret (ret1 rfl (res_tmp rfl))
          · rw [show ruleErr r = 2 by unfold ruleErr; repeat (first | omega | split)]
            refine summW Tryz.func118 rfl rfl 38 rfl (by simp) (fun M0 => ?_)
            repeat (first
    | (apply s_a TY; exact rfl)
    | (apply s_f; exact rfl; (first | assumption | omega))
    | apply w_seq
    | apply w_region
    | (apply w_draw (id := 1) 30 rfl (by kernel_rfl))
    | apply s_nil
    | apply t_norm
    | apply w_ret
    | (apply s_k1 (first4_1 _ _ _ _); exact rfl; (first | assumption | omega | decide))
    | (apply s_k (unless_T _); exact rfl)
    | (apply s_k (unless_F _); exact rfl)
    | (apply s_k1 (within_T _ _ _); exact rfl; (first | assumption | omega | decide))
    | (apply s_k1 (isWindow_F _); exact rfl; (first | assumption | omega | decide))
    | (apply s_s; exact rfl))
            exact lv_ret (ret1 rfl (res_tmp rfl))
    · by_cases hr : 0 ≤ r.reach ∧ r.reach ≤ 1000000
      · by_cases hk3 : r.kind = 3
        · by_cases hrw : r.reach ≤ r.window
          · rw [show ruleErr r = 2 by unfold ruleErr; repeat (first | omega | split)]
            refine summW Tryz.func118 rfl rfl 38 rfl (by simp) (fun M0 => ?_)
            repeat (first
    | (apply s_a TY; exact rfl)
    | (apply s_t; exact rfl; (first | assumption | omega))
    | apply w_seq
    | apply w_region
    | (apply w_draw (id := 1) 30 rfl (by kernel_rfl))
    | apply s_nil
    | apply t_norm
    | apply w_ret
    | (apply s_k1 (first4_1 _ _ _ _); exact rfl; (first | assumption | omega | decide))
    | (apply s_k (unless_T _); exact rfl)
    | (apply s_k (unless_F _); exact rfl)
    | (apply s_k (unless_s _ _); exact rfl)
    | (apply s_k1 (within_T _ _ _); exact rfl; (first | assumption | omega | decide))
    | (apply s_k1 (within_F _ _ _); exact rfl; (first | assumption | omega | decide))
    | (apply s_k1 (isWindow_T _); exact rfl; (first | assumption | omega | decide))
    | (apply s_k (isWindow_s _); exact rfl)
    | (apply s_s; exact rfl))
            exact lv_ret (ret1 rfl (res_tmp rfl))
          · rw [show ruleErr r = 2 by unfold ruleErr; repeat (first | omega | split)]
            refine summW Tryz.func118 rfl rfl 38 rfl (by simp) (fun M0 => ?_)
            repeat (first
    | (apply s_a TY; exact rfl)
    | (apply s_t; exact rfl; (first | assumption | omega))
    | (apply s_f; exact rfl; (first | assumption | omega))
    | apply w_seq
    | apply w_region
    | (apply w_draw (id := 1) 30 rfl (by kernel_rfl))
    | apply s_nil
    | apply t_norm
    | apply w_ret
    | (apply s_k1 (first4_1 _ _ _ _); exact rfl; (first | assumption | omega | decide))
    | (apply s_k (unless_T _); exact rfl)
    | (apply s_k (unless_F _); exact rfl)
    | (apply s_k (unless_s _ _); exact rfl)
    | (apply s_k1 (within_T _ _ _); exact rfl; (first | assumption | omega | decide))
    | (apply s_k1 (within_F _ _ _); exact rfl; (first | assumption | omega | decide))
    | (apply s_k1 (isWindow_T _); exact rfl; (first | assumption | omega | decide))
    | (apply s_k (isWindow_s _); exact rfl)
    | (apply s_s; exact rfl))
            exact lv_ret (ret1 rfl (res_tmp rfl))
        · rw [show ruleErr r = 2 by unfold ruleErr; repeat (first | omega | split)]
          refine summW Tryz.func118 rfl rfl 38 rfl (by simp) (fun M0 => ?_)
          repeat (first
    | (apply s_a TY; exact rfl)
    | (apply s_f; exact rfl; (first | assumption | omega))
    | apply w_seq
    | apply w_region
    | (apply w_draw (id := 1) 30 rfl (by kernel_rfl))
    | apply s_nil
    | apply t_norm
    | apply w_ret
    | (apply s_k1 (first4_1 _ _ _ _); exact rfl; (first | assumption | omega | decide))
    | (apply s_k (unless_T _); exact rfl)
    | (apply s_k (unless_F _); exact rfl)
    | (apply s_k (unless_s _ _); exact rfl)
    | (apply s_k1 (within_T _ _ _); exact rfl; (first | assumption | omega | decide))
    | (apply s_k1 (within_F _ _ _); exact rfl; (first | assumption | omega | decide))
    | (apply s_k1 (isWindow_T _); exact rfl; (first | assumption | omega | decide))
    | (apply s_k (isWindow_s _); exact rfl)
    | (apply s_s; exact rfl))
          exact lv_ret (ret1 rfl (res_tmp rfl))
      · by_cases hk3 : r.kind = 3
        · by_cases hrw : r.reach ≤ r.window
          · rw [show ruleErr r = 2 by unfold ruleErr; repeat (first | omega | split)]
            refine summW Tryz.func118 rfl rfl 38 rfl (by simp) (fun M0 => ?_)
            repeat (first
    | (apply s_a TY; exact rfl)
    | (apply s_t; exact rfl; (first | assumption | omega))
    | apply w_seq
    | apply w_region
    | (apply w_draw (id := 1) 30 rfl (by kernel_rfl))
    | apply s_nil
    | apply t_norm
    | apply w_ret
    | (apply s_k1 (first4_1 _ _ _ _); exact rfl; (first | assumption | omega | decide))
    | (apply s_k (unless_T _); exact rfl)
    | (apply s_k (unless_F _); exact rfl)
    | (apply s_k1 (within_T _ _ _); exact rfl; (first | assumption | omega | decide))
    | (apply s_k1 (within_F _ _ _); exact rfl; (first | assumption | omega | decide))
    | (apply s_k1 (isWindow_F _); exact rfl; (first | assumption | omega | decide))
    | (apply s_s; exact rfl))
            exact lv_ret (ret1 rfl (res_tmp rfl))
          · rw [show ruleErr r = 2 by unfold ruleErr; repeat (first | omega | split)]
            refine summW Tryz.func118 rfl rfl 38 rfl (by simp) (fun M0 => ?_)
            repeat (first
    | (apply s_a TY; exact rfl)
    | (apply s_t; exact rfl; (first | assumption | omega))
    | (apply s_f; exact rfl; (first | assumption | omega))
    | apply w_seq
    | apply w_region
    | (apply w_draw (id := 1) 30 rfl (by kernel_rfl))
    | apply s_nil
    | apply t_norm
    | apply w_ret
    | (apply s_k1 (first4_1 _ _ _ _); exact rfl; (first | assumption | omega | decide))
    | (apply s_k (unless_T _); exact rfl)
    | (apply s_k (unless_F _); exact rfl)
    | (apply s_k1 (within_T _ _ _); exact rfl; (first | assumption | omega | decide))
    | (apply s_k1 (within_F _ _ _); exact rfl; (first | assumption | omega | decide))
    | (apply s_k1 (isWindow_F _); exact rfl; (first | assumption | omega | decide))
    | (apply s_s; exact rfl))
            exact lv_ret (ret1 rfl (res_tmp rfl))
        · rw [show ruleErr r = 2 by unfold ruleErr; repeat (first | omega | split)]
          refine summW Tryz.func118 rfl rfl 38 rfl (by simp) (fun M0 => ?_)
          repeat (first
    | (apply s_a TY; exact rfl)
    | (apply s_f; exact rfl; (first | assumption | omega))
    | apply w_seq
    | apply w_region
    | (apply w_draw (id := 1) 30 rfl (by kernel_rfl))
    | apply s_nil
    | apply t_norm
    | apply w_ret
    | (apply s_k1 (first4_1 _ _ _ _); exact rfl; (first | assumption | omega | decide))
    | (apply s_k (unless_T _); exact rfl)
    | (apply s_k (unless_F _); exact rfl)
    | (apply s_k1 (within_T _ _ _); exact rfl; (first | assumption | omega | decide))
    | (apply s_k1 (within_F _ _ _); exact rfl; (first | assumption | omega | decide))
    | (apply s_k1 (isWindow_F _); exact rfl; (first | assumption | omega | decide))
    | (apply s_s; exact rfl))
          exact lv_ret (ret1 rfl (res_tmp rfl))
  · by_cases hc : 1 ≤ r.count ∧ r.count ≤ 40
    · by_cases hr : 0 ≤ r.reach ∧ r.reach ≤ 1000000
      · rw [show ruleErr r = 15 by unfold ruleErr; repeat (first | omega | split)]
        refine summW Tryz.func118 rfl rfl 38 rfl (by simp) (fun M0 => ?_)
        repeat (first
    | (apply s_a TY; exact rfl)
    | (apply s_f; exact rfl; (first | assumption | omega))
    | apply w_seq
    | apply w_region
    | (apply w_draw (id := 1) 30 rfl (by kernel_rfl))
    | apply s_nil
    | apply t_norm
    | apply w_ret
    | (apply s_k1 (first4_0 _ _ _ _); exact rfl; (first | assumption | omega | decide))
    | (apply s_k (unless_T _); exact rfl)
    | (apply s_k (unless_F _); exact rfl)
    | (apply s_k (unless_s _ _); exact rfl)
    | (apply s_k1 (within_T _ _ _); exact rfl; (first | assumption | omega | decide))
    | (apply s_k1 (within_F _ _ _); exact rfl; (first | assumption | omega | decide))
    | (apply s_k1 (isWindow_T _); exact rfl; (first | assumption | omega | decide))
    | (apply s_k (isWindow_s _); exact rfl)
    | (apply s_s; exact rfl))
        exact lv_ret (ret1 rfl (res_tmp rfl))
      · rw [show ruleErr r = 15 by unfold ruleErr; repeat (first | omega | split)]
        refine summW Tryz.func118 rfl rfl 38 rfl (by simp) (fun M0 => ?_)
        repeat (first
    | (apply s_a TY; exact rfl)
    | (apply s_f; exact rfl; (first | assumption | omega))
    | apply w_seq
    | apply w_region
    | (apply w_draw (id := 1) 30 rfl (by kernel_rfl))
    | apply s_nil
    | apply t_norm
    | apply w_ret
    | (apply s_k1 (first4_0 _ _ _ _); exact rfl; (first | assumption | omega | decide))
    | (apply s_k (unless_T _); exact rfl)
    | (apply s_k (unless_F _); exact rfl)
    | (apply s_k (unless_s _ _); exact rfl)
    | (apply s_k1 (within_T _ _ _); exact rfl; (first | assumption | omega | decide))
    | (apply s_k1 (within_F _ _ _); exact rfl; (first | assumption | omega | decide))
    | (apply s_k1 (isWindow_F _); exact rfl; (first | assumption | omega | decide))
    | (apply s_k (isWindow_s _); exact rfl)
    | (apply s_s; exact rfl))
        exact lv_ret (ret1 rfl (res_tmp rfl))
    · by_cases hr : 0 ≤ r.reach ∧ r.reach ≤ 1000000
      · rw [show ruleErr r = 15 by unfold ruleErr; repeat (first | omega | split)]
        refine summW Tryz.func118 rfl rfl 38 rfl (by simp) (fun M0 => ?_)
        repeat (first
    | (apply s_a TY; exact rfl)
    | (apply s_f; exact rfl; (first | assumption | omega))
    | apply w_seq
    | apply w_region
    | (apply w_draw (id := 1) 30 rfl (by kernel_rfl))
    | apply s_nil
    | apply t_norm
    | apply w_ret
    | (apply s_k1 (first4_0 _ _ _ _); exact rfl; (first | assumption | omega | decide))
    | (apply s_k (unless_T _); exact rfl)
    | (apply s_k (unless_F _); exact rfl)
    | (apply s_k (unless_s _ _); exact rfl)
    | (apply s_k1 (within_F _ _ _); exact rfl; (first | assumption | omega | decide))
    | (apply s_k1 (isWindow_T _); exact rfl; (first | assumption | omega | decide))
    | (apply s_k (isWindow_s _); exact rfl)
    | (apply s_s; exact rfl))
        exact lv_ret (ret1 rfl (res_tmp rfl))
      · rw [show ruleErr r = 15 by unfold ruleErr; repeat (first | omega | split)]
        refine summW Tryz.func118 rfl rfl 38 rfl (by simp) (fun M0 => ?_)
        repeat (first
    | (apply s_a TY; exact rfl)
    | (apply s_f; exact rfl; (first | assumption | omega))
    | apply w_seq
    | apply w_region
    | (apply w_draw (id := 1) 30 rfl (by kernel_rfl))
    | apply s_nil
    | apply t_norm
    | apply w_ret
    | (apply s_k1 (first4_0 _ _ _ _); exact rfl; (first | assumption | omega | decide))
    | (apply s_k (unless_T _); exact rfl)
    | (apply s_k (unless_F _); exact rfl)
    | (apply s_k1 (within_F _ _ _); exact rfl; (first | assumption | omega | decide))
    | (apply s_k1 (isWindow_F _); exact rfl; (first | assumption | omega | decide))
    | (apply s_s; exact rfl))
        exact lv_ret (ret1 rfl (res_tmp rfl))
set_option maxRecDepth 100000 in
theorem RuleErr_s (r : Rule) : Summ Tryz.prog GG 59 [.agg (ruleF r)] (iv (ruleErr r)) := by
  by_cases hk : 0 ≤ r.kind ∧ r.kind ≤ 3
  · by_cases hc : 1 ≤ r.count ∧ r.count ≤ 40
    · by_cases hw : 0 ≤ r.window ∧ r.window ≤ 1000000
      · by_cases hr : 0 ≤ r.reach ∧ r.reach ≤ 1000000
        · by_cases hh : 0 ≤ r.height ∧ r.height ≤ 1000000
          · by_cases hk3 : r.kind = 3
            · by_cases hrw : r.reach ≤ r.window
              · rw [show ruleErr r = 0 by unfold ruleErr; repeat (first | omega | split)]
                refine summW Tryz.func59 rfl rfl 39 rfl (by simp) (fun M0 => ?_)
                repeat (first
    | (apply s_a TY; exact rfl)
    | (apply s_t; exact rfl; (first | assumption | omega))
    | (apply s_f; exact rfl; (first | assumption | omega))
    | apply w_seq
    | apply w_region
    | apply s_nil
    | apply t_norm
    | apply w_ret
    | apply w_skip
    | (apply w_condF; exact rfl; exact rfl)
    | (apply s_k1 (bwithin_T _ _ _); exact rfl; (first | assumption | omega | decide))
    | (apply s_k1 (rIsWindow_T _); exact rfl; (first | assumption | omega | decide)))
                exact lv_ret (ret1 rfl (res_tmp rfl))
              · rw [show ruleErr r = 9 by unfold ruleErr; repeat (first | omega | split)]
                refine summW Tryz.func59 rfl rfl 39 rfl (by simp) (fun M0 => ?_)
                repeat (first
    | (apply s_a TY; exact rfl)
    | (apply s_t; exact rfl; (first | assumption | omega))
    | apply w_seq
    | apply w_region
    | apply s_nil
    | apply t_norm
    | apply t_ret
    | apply w_ret
    | apply w_skip
    | (apply w_condT; exact rfl; exact rfl)
    | (apply w_condF; exact rfl; exact rfl)
    | (apply s_k1 (bwithin_T _ _ _); exact rfl; (first | assumption | omega | decide))
    | (apply s_k1 (rIsWindow_T _); exact rfl; (first | assumption | omega | decide)))
                exact lv_ret (ret1 rfl (res_tmp rfl))
            · rw [show ruleErr r = 0 by unfold ruleErr; repeat (first | omega | split)]
              refine summW Tryz.func59 rfl rfl 39 rfl (by simp) (fun M0 => ?_)
              repeat (first
    | (apply s_a TY; exact rfl)
    | (apply s_f; exact rfl; (first | assumption | omega))
    | apply w_seq
    | apply w_region
    | apply s_nil
    | apply t_norm
    | apply w_ret
    | apply w_skip
    | (apply w_condF; exact rfl; exact rfl)
    | (apply s_k1 (bwithin_T _ _ _); exact rfl; (first | assumption | omega | decide))
    | (apply s_k1 (rIsWindow_T _); exact rfl; (first | assumption | omega | decide))
    | (apply s_s; exact rfl))
              exact lv_ret (ret1 rfl (res_tmp rfl))
          · rw [show ruleErr r = 2 by unfold ruleErr; repeat (first | omega | split)]
            refine summW Tryz.func59 rfl rfl 39 rfl (by simp) (fun M0 => ?_)
            repeat (first
    | (apply s_a TY; exact rfl)
    | apply w_seq
    | apply w_region
    | apply s_nil
    | apply t_norm
    | apply t_ret
    | apply w_ret
    | apply w_skip
    | (apply w_condT; exact rfl; exact rfl)
    | (apply w_condF; exact rfl; exact rfl)
    | (apply s_k1 (bwithin_T _ _ _); exact rfl; (first | assumption | omega | decide))
    | (apply s_k1 (rIsWindow_T _); exact rfl; (first | assumption | omega | decide))
    | (apply s_k1 (rIsWindow_F _); exact rfl; (first | assumption | omega | decide)))
            exact lv_ret (ret1 rfl (res_tmp rfl))
        · rw [show ruleErr r = 2 by unfold ruleErr; repeat (first | omega | split)]
          refine summW Tryz.func59 rfl rfl 39 rfl (by simp) (fun M0 => ?_)
          repeat (first
    | (apply s_a TY; exact rfl)
    | apply w_seq
    | apply w_region
    | apply s_nil
    | apply t_norm
    | apply t_ret
    | apply w_ret
    | apply w_skip
    | (apply w_condT; exact rfl; exact rfl)
    | (apply w_condF; exact rfl; exact rfl)
    | (apply s_k1 (bwithin_T _ _ _); exact rfl; (first | assumption | omega | decide))
    | (apply s_k1 (rIsWindow_T _); exact rfl; (first | assumption | omega | decide))
    | (apply s_k1 (rIsWindow_F _); exact rfl; (first | assumption | omega | decide))
    | (apply s_s; exact rfl))
          exact lv_ret (ret1 rfl (res_tmp rfl))
      · rw [show ruleErr r = 2 by unfold ruleErr; repeat (first | omega | split)]
        refine summW Tryz.func59 rfl rfl 39 rfl (by simp) (fun M0 => ?_)
        repeat (first
    | (apply s_a TY; exact rfl)
    | apply w_seq
    | apply w_region
    | apply s_nil
    | apply t_norm
    | apply t_ret
    | apply w_ret
    | apply w_skip
    | (apply w_condT; exact rfl; exact rfl)
    | (apply w_condF; exact rfl; exact rfl)
    | (apply s_k1 (bwithin_T _ _ _); exact rfl; (first | assumption | omega | decide))
    | (apply s_k1 (rIsWindow_F _); exact rfl; (first | assumption | omega | decide))
    | (apply s_s; exact rfl))
        exact lv_ret (ret1 rfl (res_tmp rfl))
    · rw [show ruleErr r = 2 by unfold ruleErr; repeat (first | omega | split)]
      refine summW Tryz.func59 rfl rfl 39 rfl (by simp) (fun M0 => ?_)
      repeat (first
    | (apply s_a TY; exact rfl)
    | apply w_seq
    | apply w_region
    | apply s_nil
    | apply t_norm
    | apply t_ret
    | apply w_ret
    | apply w_skip
    | (apply w_condT; exact rfl; exact rfl)
    | (apply w_condF; exact rfl; exact rfl)
    | (apply s_k1 (bwithin_T _ _ _); exact rfl; (first | assumption | omega | decide))
    | (apply s_k1 (bwithin_F _ _ _); exact rfl; (first | assumption | omega | decide))
    | (apply s_s; exact rfl))
      exact lv_ret (ret1 rfl (res_tmp rfl))
  · rw [show ruleErr r = 15 by unfold ruleErr; repeat (first | omega | split)]
    refine summW Tryz.func59 rfl rfl 39 rfl (by simp) (fun M0 => ?_)
    repeat (first
    | (apply s_a TY; exact rfl)
    | apply w_seq
    | apply w_region
    | apply s_nil
    | apply t_norm
    | apply t_ret
    | apply w_ret
    | (apply w_condT; exact rfl; exact rfl)
    | (apply s_k1 (bwithin_F _ _ _); exact rfl; (first | assumption | omega | decide)))
    exact lv_ret (ret1 rfl (res_tmp rfl))
theorem CheckSetup1_s (i : Int) (r : Rule) : Summ Tryz.prog GG 148 [iv i, .agg (ruleF r)] (iv (ruleErr r)) := by
  refine summW Tryz.func148 rfl rfl 7 rfl (by simp) (fun M0 => ?_)
  repeat (first
    | (apply s_a TY; exact rfl)
    | apply w_seq
    | apply w_region
    | apply s_nil
    | apply t_norm
    | apply w_ret
    | (apply s_k (CheckRule_s _); exact rfl))
  exact lv_ret (ret1 rfl (res_tmp rfl))
set_option maxRecDepth 100000 in
theorem CheckSetup_s (s : Setup) (hlen : s.rules.length ≤ 1000000) : Summ Tryz.prog GG 114 [setF s] (.tup [iv (setupChk s).1, iv (setupChk s).2]) := by
  by_cases hn : s.rules.length = 0
  · rw [show setupChk s = (0, 10) by unfold setupChk; repeat (first | rfl | omega | contradiction | split)]
    refine summW Tryz.func114 rfl rfl 46 rfl (by simp) (fun M0 => ?_)
    repeat (first
    | (apply s_a TY; exact rfl)
    | (apply s_t; exact rfl; (first | assumption | omega))
    | (apply s_f; exact rfl; (first | assumption | omega))
    | apply w_seq
    | apply w_region
    | (apply w_draw (id := 1) 9 rfl (by kernel_rfl))
    | apply s_nil
    | apply t_norm
    | apply t_ret
    | apply w_ret
    | (apply w_condT; exact rfl; exact rfl)
    | (apply s_k1 (first2_0 _ _); exact rfl; (first | assumption | omega | decide))
    | (apply s_k (unless_T _); exact rfl)
    | (apply s_k (unless_F _); exact rfl))
    exact lv_ret (ret2 rfl (res_tmp rfl) (res_tmp rfl))
  · by_cases hl : 4 < s.rules.length
    · rw [show setupChk s = (0, 8) by unfold setupChk; repeat (first | rfl | omega | contradiction | split)]
      refine summW Tryz.func114 rfl rfl 46 rfl (by simp) (fun M0 => ?_)
      repeat (first
    | (apply s_a TY; exact rfl)
    | (apply s_t; exact rfl; (first | assumption | omega))
    | (apply s_f; exact rfl; (first | assumption | omega))
    | apply w_seq
    | apply w_region
    | (apply w_draw (id := 1) 9 rfl (by kernel_rfl))
    | apply s_nil
    | apply t_norm
    | apply t_ret
    | apply w_ret
    | (apply w_condT; exact rfl; exact rfl)
    | (apply s_k1 (first2_1 _ _); exact rfl; (first | assumption | omega | decide))
    | (apply s_k (unless_T _); exact rfl)
    | (apply s_k (unless_F _); exact rfl))
      exact lv_ret (ret2 rfl (res_tmp rfl) (res_tmp rfl))
    · by_cases he : (eachE s.rules.length fun i => ruleErr (s.rules.getD i default)).2 = 0
      · by_cases hb : 0 ≤ s.before ∧ s.before ≤ 1000000
        · by_cases ha : 0 ≤ s.after ∧ s.after ≤ 1000000
          · by_cases hd : 0 ≤ s.dead ∧ s.dead ≤ 1000000
            · rw [show setupChk s = (0, 0) by unfold setupChk; repeat (first | rfl | omega | contradiction | split)]
              have HE := eachRule_s s.rules 148 [] (fun i => ruleErr (s.rules.getD i default)) (by omega) (fun i hi => by rw [getD_at hi]; exact CheckSetup1_s _ _)
              rw [he] at HE
              refine summW Tryz.func114 rfl rfl 46 rfl (by simp) (fun M0 => ?_)
              repeat (first
    | (apply s_a TY; exact rfl)
    | (apply s_t; exact rfl; (first | assumption | omega))
    | apply w_seq
    | apply w_region
    | (apply w_draw (id := 1) 9 rfl (by kernel_rfl))
    | apply s_nil
    | apply t_norm
    | apply w_ret
    | apply w_skip
    | (apply w_condF; exact rfl; exact rfl)
    | (apply s_k (HE); exact rfl)
    | (apply s_k1 (first2_1 _ _); exact rfl; (first | assumption | omega | decide))
    | (apply s_k (unless_T _); exact rfl)
    | (apply s_k1 (isWindow_T _); exact rfl; (first | assumption | omega | decide)))
              exact lv_ret (ret2 rfl (res_tmp rfl) (res_tmp rfl))
            · rw [show setupChk s = (0, 2) by unfold setupChk; repeat (first | rfl | omega | contradiction | split)]
              have HE := eachRule_s s.rules 148 [] (fun i => ruleErr (s.rules.getD i default)) (by omega) (fun i hi => by rw [getD_at hi]; exact CheckSetup1_s _ _)
              rw [he] at HE
              refine summW Tryz.func114 rfl rfl 46 rfl (by simp) (fun M0 => ?_)
              repeat (first
    | (apply s_a TY; exact rfl)
    | (apply s_t; exact rfl; (first | assumption | omega))
    | apply w_seq
    | apply w_region
    | (apply w_draw (id := 1) 9 rfl (by kernel_rfl))
    | apply s_nil
    | apply t_norm
    | apply w_ret
    | apply w_skip
    | (apply w_condF; exact rfl; exact rfl)
    | (apply s_k (HE); exact rfl)
    | (apply s_k1 (first2_1 _ _); exact rfl; (first | assumption | omega | decide))
    | (apply s_k (unless_T _); exact rfl)
    | (apply s_k (unless_F _); exact rfl)
    | (apply s_k1 (isWindow_T _); exact rfl; (first | assumption | omega | decide))
    | (apply s_k1 (isWindow_F _); exact rfl; (first | assumption | omega | decide)))
              exact lv_ret (ret2 rfl (res_tmp rfl) (res_tmp rfl))
          · rw [show setupChk s = (0, 2) by unfold setupChk; repeat (first | rfl | omega | contradiction | split)]
            have HE := eachRule_s s.rules 148 [] (fun i => ruleErr (s.rules.getD i default)) (by omega) (fun i hi => by rw [getD_at hi]; exact CheckSetup1_s _ _)
            rw [he] at HE
            refine summW Tryz.func114 rfl rfl 46 rfl (by simp) (fun M0 => ?_)
            repeat (first
    | (apply s_a TY; exact rfl)
    | (apply s_t; exact rfl; (first | assumption | omega))
    | apply w_seq
    | apply w_region
    | (apply w_draw (id := 1) 9 rfl (by kernel_rfl))
    | apply s_nil
    | apply t_norm
    | apply w_ret
    | apply w_skip
    | (apply w_condF; exact rfl; exact rfl)
    | (apply s_k (HE); exact rfl)
    | (apply s_k1 (first2_1 _ _); exact rfl; (first | assumption | omega | decide))
    | (apply s_k (unless_T _); exact rfl)
    | (apply s_k (unless_F _); exact rfl)
    | (apply s_k1 (isWindow_T _); exact rfl; (first | assumption | omega | decide))
    | (apply s_k1 (isWindow_F _); exact rfl; (first | assumption | omega | decide))
    | (apply s_s; exact rfl))
            exact lv_ret (ret2 rfl (res_tmp rfl) (res_tmp rfl))
        · rw [show setupChk s = (0, 2) by unfold setupChk; repeat (first | rfl | omega | contradiction | split)]
          have HE := eachRule_s s.rules 148 [] (fun i => ruleErr (s.rules.getD i default)) (by omega) (fun i hi => by rw [getD_at hi]; exact CheckSetup1_s _ _)
          rw [he] at HE
          refine summW Tryz.func114 rfl rfl 46 rfl (by simp) (fun M0 => ?_)
          repeat (first
    | (apply s_a TY; exact rfl)
    | (apply s_t; exact rfl; (first | assumption | omega))
    | apply w_seq
    | apply w_region
    | (apply w_draw (id := 1) 9 rfl (by kernel_rfl))
    | apply s_nil
    | apply t_norm
    | apply w_ret
    | apply w_skip
    | (apply w_condF; exact rfl; exact rfl)
    | (apply s_k (HE); exact rfl)
    | (apply s_k1 (first2_1 _ _); exact rfl; (first | assumption | omega | decide))
    | (apply s_k (unless_T _); exact rfl)
    | (apply s_k (unless_F _); exact rfl)
    | (apply s_k1 (isWindow_F _); exact rfl; (first | assumption | omega | decide))
    | (apply s_s; exact rfl))
          exact lv_ret (ret2 rfl (res_tmp rfl) (res_tmp rfl))
      · rw [show setupChk s = (eachE s.rules.length fun i => ruleErr (s.rules.getD i default)) by unfold setupChk; repeat (first | rfl | omega | contradiction | split)]
        have HE := eachRule_s s.rules 148 [] (fun i => ruleErr (s.rules.getD i default)) (by omega) (fun i hi => by rw [getD_at hi]; exact CheckSetup1_s _ _)
        refine summW Tryz.func114 rfl rfl 46 rfl (by simp) (fun M0 => ?_)
        repeat (first
    | (apply s_a TY; exact rfl)
    | (apply s_t; exact rfl; (first | assumption | omega))
    | (apply s_f; exact rfl; (first | assumption | omega))
    | apply w_seq
    | apply w_region
    | (apply w_draw (id := 1) 9 rfl (by kernel_rfl))
    | apply s_nil
    | apply t_norm
    | apply t_ret
    | apply w_ret
    | apply w_skip
    | (apply w_condT; exact rfl; exact rfl)
    | (apply w_condF; exact rfl; exact rfl)
    | (apply s_k (HE); exact rfl)
    | (apply s_k1 (first2_1 _ _); exact rfl; (first | assumption | omega | decide))
    | (apply s_k (unless_T _); exact rfl))
        exact lv_ret (ret2 rfl (res_tmp rfl) (res_tmp rfl))
set_option maxRecDepth 100000 in
theorem rCheckSetup_s (s : Setup) (hlen : s.rules.length ≤ 1000000) : Summ Tryz.prog GG 107 [setF s] (.tup [iv (setupChk s).1, iv (setupChk s).2]) := by
  by_cases hn : s.rules.length = 0
  · rw [show setupChk s = (0, 10) by unfold setupChk; repeat (first | rfl | omega | contradiction | split)]
    refine summW Tryz.func107 rfl rfl 47 rfl (by simp) (fun M0 => ?_)
    repeat (first
    | (apply s_a TY; exact rfl)
    | (apply s_t; exact rfl; (first | assumption | omega))
    | apply w_seq
    | apply w_region
    | apply s_nil
    | apply t_norm
    | apply t_ret
    | apply w_ret
    | (apply w_condT; exact rfl; exact rfl))
    exact lv_ret (ret2 rfl (res_tmp rfl) (res_tmp rfl))
  by_cases hl : 4 < s.rules.length
  · rw [show setupChk s = (0, 8) by unfold setupChk; repeat (first | rfl | omega | contradiction | split)]
    refine summW Tryz.func107 rfl rfl 47 rfl (by simp) (fun M0 => ?_)
    repeat (first
    | (apply s_a TY; exact rfl)
    | (apply s_t; exact rfl; (first | assumption | omega))
    | (apply s_f; exact rfl; (first | assumption | omega))
    | apply w_seq
    | apply w_region
    | apply s_nil
    | apply t_norm
    | apply t_ret
    | apply w_ret
    | apply w_skip
    | (apply w_condT; exact rfl; exact rfl)
    | (apply w_condF; exact rfl; exact rfl))
    exact lv_ret (ret2 rfl (res_tmp rfl) (res_tmp rfl))
  refine summW Tryz.func107 rfl rfl 47 rfl (by simp) (fun M0 => ?_)
  repeat (first
    | (apply s_a TY; exact rfl)
    | (apply s_f; exact rfl; (first | assumption | omega))
    | apply w_seq
    | apply w_region
    | apply s_nil
    | apply t_norm
    | apply w_block
    | apply w_skip
    | (apply w_condF; exact rfl; exact rfl))
  apply w_loop (fun k : Nat => ⟨(Ab.upd (Ab.upd (fun _ => .bot) 1 (.f (.pt (setL s) 0))) 4 (.f (iv (k : Nat)))), (fun _ => none), 0⟩) (fun k => k ≤ s.rules.length ∧ ∀ j, j < k → ruleErr (s.rules.getD j default) = 0) (fun k => s.rules.length - k) 0 (⟨Nat.zero_le _, fun j h => absurd h (Nat.not_lt_zero j)⟩) (gh_le ⟨le_upd rfl trivial (le_upd rfl trivial (le_nil _)), le_h0 _ _⟩)
  intro k ⟨hk, hz⟩
  by_cases hc : k < s.rules.length
  · have hg := getD_at hc
    by_cases he : ruleErr s.rules[k] = 0
    · have HR := RuleErr_s s.rules[k]
      rw [he] at HR
      repeat (first
    | (apply s_a TY; exact rfl)
    | (apply s_t; exact rfl; (first | assumption | omega))
    | apply w_seq
    | apply w_region
    | apply s_nil
    | apply t_norm
    | apply k_norm
    | apply w_block
    | apply w_skip
    | (apply w_condT; exact rfl; exact rfl)
    | (apply w_condF; exact rfl; exact rfl)
    | (apply s_k (HR); exact rfl)
    | (apply s_c TY; exact rfl; (first | omega | exact ⟨by omega, by (first | with_reducible assumption | ((with_reducible apply rulesF_ne); omega) | assumption)⟩))
    | (apply s_m TY; exact rfl; (first | with_reducible assumption | ((with_reducible apply rulesF_sub); omega) | exact rfl); exact rfl))
      exact ⟨k + 1, ⟨by omega, fun j hj => by
        by_cases e : j = k
        · subst e; rw [hg]; exact he
        · exact hz j (by omega)⟩, by omega, gh_le ⟨le_upd rfl trivial (le_upd rfl trivial (le_nil _)), le_h0 _ _⟩⟩
    · have HE : setupChk s = (k, ruleErr s.rules[k]) := by
        unfold setupChk
        rw [if_neg hn, if_neg hl, eachE_at hc hz (by rw [hg]; exact he), hg, if_pos he]
      rw [HE]
      repeat (first
    | (apply s_a TY; exact rfl)
    | (apply s_t; exact rfl; (first | assumption | omega))
    | (apply s_f; exact rfl; (first | assumption | omega))
    | apply w_seq
    | apply w_region
    | apply s_nil
    | apply t_norm
    | apply t_ret
    | apply k_ret
    | apply w_block
    | apply w_ret
    | apply w_skip
    | (apply w_condT; exact rfl; exact rfl)
    | (apply s_k (RuleErr_s _); exact rfl)
    | (apply s_c TY; exact rfl; (first | omega | exact ⟨by omega, by (first | with_reducible assumption | ((with_reducible apply rulesF_ne); omega) | assumption)⟩))
    | (apply s_m TY; exact rfl; (first | with_reducible assumption | ((with_reducible apply rulesF_sub); omega) | exact rfl); exact rfl))
      exact lv_ret (ret2 rfl (res_tmp rfl) (res_tmp rfl))
  · have he : (eachE s.rules.length fun i => ruleErr (s.rules.getD i default)).2 = 0 := by rw [eachE_ok (fun i hi => hz i (by omega))]
    by_cases hb : 0 ≤ s.before ∧ s.before ≤ 1000000
    · by_cases ha : 0 ≤ s.after ∧ s.after ≤ 1000000
      · by_cases hd : 0 ≤ s.dead ∧ s.dead ≤ 1000000
        · rw [show setupChk s = (0, 0) by unfold setupChk; repeat (first | rfl | omega | contradiction | split)]
          repeat (first
    | (apply s_a TY; exact rfl)
    | (apply s_f; exact rfl; (first | assumption | omega))
    | apply w_seq
    | apply w_region
    | apply s_nil
    | apply t_norm
    | apply t_exit
    | apply k_hit
    | apply w_exit
    | apply w_ret
    | apply w_skip
    | (apply w_condF; exact rfl; exact rfl)
    | (apply s_k1 (rIsWindow_T _); exact rfl; (first | assumption | omega | decide)))
          exact lv_ret (ret2 rfl (res_tmp rfl) (res_tmp rfl))
        · rw [show setupChk s = (0, 2) by unfold setupChk; repeat (first | rfl | omega | contradiction | split)]
          repeat (first
    | (apply s_a TY; exact rfl)
    | (apply s_f; exact rfl; (first | assumption | omega))
    | apply w_seq
    | apply w_region
    | apply s_nil
    | apply t_norm
    | apply t_exit
    | apply t_ret
    | apply k_hit
    | apply w_exit
    | apply w_ret
    | (apply w_condT; exact rfl; exact rfl)
    | (apply w_condF; exact rfl; exact rfl)
    | (apply s_k1 (rIsWindow_T _); exact rfl; (first | assumption | omega | decide))
    | (apply s_k1 (rIsWindow_F _); exact rfl; (first | assumption | omega | decide)))
          exact lv_ret (ret2 rfl (res_tmp rfl) (res_tmp rfl))
      · rw [show setupChk s = (0, 2) by unfold setupChk; repeat (first | rfl | omega | contradiction | split)]
        repeat (first
    | (apply s_a TY; exact rfl)
    | (apply s_f; exact rfl; (first | assumption | omega))
    | apply w_seq
    | apply w_region
    | apply s_nil
    | apply t_norm
    | apply t_exit
    | apply t_ret
    | apply k_hit
    | apply w_exit
    | apply w_ret
    | (apply w_condT; exact rfl; exact rfl)
    | (apply w_condF; exact rfl; exact rfl)
    | (apply s_k1 (rIsWindow_T _); exact rfl; (first | assumption | omega | decide))
    | (apply s_k1 (rIsWindow_F _); exact rfl; (first | assumption | omega | decide))
    | (apply s_s; exact rfl))
        exact lv_ret (ret2 rfl (res_tmp rfl) (res_tmp rfl))
    · rw [show setupChk s = (0, 2) by unfold setupChk; repeat (first | rfl | omega | contradiction | split)]
      repeat (first
    | (apply s_a TY; exact rfl)
    | (apply s_f; exact rfl; (first | assumption | omega))
    | apply w_seq
    | apply w_region
    | apply s_nil
    | apply t_norm
    | apply t_exit
    | apply t_ret
    | apply k_hit
    | apply w_exit
    | apply w_ret
    | (apply w_condT; exact rfl; exact rfl)
    | (apply w_condF; exact rfl; exact rfl)
    | (apply s_k1 (rIsWindow_F _); exact rfl; (first | assumption | omega | decide))
    | (apply s_s; exact rfl))
      exact lv_ret (ret2 rfl (res_tmp rfl) (res_tmp rfl))
theorem SetupErr_s (s : Setup) (hlen : s.rules.length ≤ 1000000) : Summ Tryz.prog GG 44 [setF s] (iv (setupChk s).2) := by
  refine summW Tryz.func44 rfl rfl 11 rfl (by simp) (fun M0 => ?_)
  repeat (first
    | (apply s_a TY; exact rfl)
    | apply w_seq
    | apply w_region
    | apply s_nil
    | apply t_norm
    | apply w_ret
    | (apply s_k1 (rCheckSetup_s _); exact rfl; (first | assumption | omega | decide)))
  exact lv_ret (ret1 rfl (res_tmp rfl))
end Go.Proofs.YtdmdpkoapllkkaaGreat
namespace Go.Proofs.YtdmdpkoapllkkaaGreat
open Go Go.RowKit Go.Proofs Go.Shelf Go.Ab
def encA (a : Int × Int) : Value := .agg #[.int .i64 a.1, .int .i64 a.2]
def encI (z : Int) : Value := .int .i64 z
theorem stoodA : Tryz.prog.stoodInHeld 188 = false := by kernel_rfl
theorem fieldsA : Tryz.prog.fieldsOf 188 = #[{ name := "line", type := 3, offset := 0, embedded := false, tag := "", pkgPath := "cherenkov/trigger", byteOffset := 0 }, { name := "sensor", type := 3, offset := 1, embedded := false, tag := "", pkgPath := "cherenkov/trigger", byteOffset := 8 }] := by kernel_rfl
theorem zeroI (W : World) : (zeroValue 3).run Tryz.prog W = .ok (.int .i64 0) W := by kernel_rfl
theorem equalIn_A (d : Nat) (a b : Int × Int) (W : World) : (Op.equalIn (d + 2) 188 (encA a) (encA b)).run Tryz.prog W = .ok (decide (a = b)) W := by
  unfold encA
  rw [run_equalIn_agg W (d + 1) 188 _ _ (by rw [fieldsA]; exact Tryz.underlying188) stoodA, fieldsA]
  have e : decide (a = b) = (a.1 == b.1 && a.2 == b.2) := by
    cases a; cases b; simp [Prod.mk.injEq]
    rename_i p q r s
    by_cases h : p = r <;> by_cases h2 : q = s <;> simp [h, h2]
  rw [e]
  cases h1 : a.1 == b.1 <;> cases h2 : a.2 == b.2 <;> simp [Op.eqFields, part, run_equalIn_int W d 3 _ _ _ _ Tryz.underlying3, h1, h2]
theorem check_A (d : Nat) (c : Int × Int) (em : Bool) (W : World) : (Instr.checkKey em (d + 2) 188 (encA c)).run Tryz.prog W = .ok () W := by
  unfold encA
  simp [Instr.checkKey, run_underlying Tryz.underlying188, run_underlying Tryz.underlying3, part]
theorem same_A (d : Nat) (c : Int × Int) : Instr.sameBits (d + 2) (encA c) (encA c) = true := by unfold encA; simp [Instr.sameBits]
theorem keyA : KeyOk Tryz.prog 188 encA := KeyOk.struct Tryz.underlying188 (fun _ => ⟨_, rfl⟩) (fun a b W => equalIn_A 9998 a b W) (fun em c W => check_A 9998 c em W) (fun c => same_A 9998 c)
def siteRight (s : Site) : Prop := (1 ≤ s.line ∧ s.line ≤ 100) ∧ (1 ≤ s.sensor ∧ s.sensor ≤ 100) ∧ (-100000 ≤ s.x ∧ s.x ≤ 100000) ∧ (-100000 ≤ s.y ∧ s.y ≤ 100000) ∧ (-100000 ≤ s.z ∧ s.z ≤ 100000)
instance (s : Site) : Decidable (siteRight s) := by unfold siteRight; infer_instance
def addr (s : Site) : Int × Int := (s.line, s.sensor)
def idxM (l : List Site) : Nat → Int × Int → Option Int
  | 0, _ => none
  | i + 1, a => if a = addr (l.getD i default) then some (i : Int) else idxM l i a
theorem idxM_none {l : List Site} {a : Int × Int} : ∀ {n : Nat}, idxM l n a = none ↔ ∀ k, k < n → addr (l.getD k default) ≠ a
  | 0 => by simp [idxM]
  | n + 1 => by
    unfold idxM
    by_cases h : a = addr (l.getD n default)
    · simp only [if_pos h]
      exact ⟨(fun h2 => by cases h2), fun h2 => absurd h.symm (h2 n (by omega))⟩
    · rw [if_neg h, idxM_none]
      refine ⟨fun h2 k hk => ?_, fun h2 k hk => h2 k (by omega)⟩
      by_cases e : k = n
      · subst e; exact fun e => h e.symm
      · exact h2 k (by omega)
theorem idxM_some {l : List Site} {a : Int × Int} {z : Int} : ∀ {n : Nat}, idxM l n a = some z → ∃ k : Nat, k < n ∧ z = k ∧ addr (l.getD k default) = a
  | 0, h => by simp [idxM] at h
  | n + 1, h => by
    unfold idxM at h
    by_cases e : a = addr (l.getD n default)
    · rw [if_pos e] at h; cases h; exact ⟨n, by omega, rfl, e.symm⟩
    · rw [if_neg e] at h; obtain ⟨k, h1, h2, h3⟩ := idxM_some h; exact ⟨k, by omega, h2, h3⟩
def siteE (l : List Site) (i : Nat) : Int := if ¬ siteRight (l.getD i default) then 2 else if (idxM l i (addr (l.getD i default))).isSome = true then 23 else 0
def arrChk (l : List Site) : Nat × Int := if l.length = 0 then (0, 10) else if 30 < l.length then (0, 8) else eachE l.length (siteE l)
def mapS (l : List Site) (n : Nat) : Obj → Prop := mapFn encA encI (idxM l n)
theorem lookS {l : List Site} {n : Nat} {a : Int × Int} {z : Int} (h : idxM l n a = some z) (ob : Obj) (r : Nat) (w : World) (hg : mapS l n ob) (hr : w.heap[r]? = some ob) : (Instr.lookup 112 (.map (some r)) (encA a) true).run Tryz.prog w = .ok (.tuple #[.int .i64 z, .bool true]) w := by
  rw [mapFn_lookup keyA Tryz.underlying112 zeroI hg hr a true, h]; rfl
theorem lookN {l : List Site} {n : Nat} {a : Int × Int} (h : idxM l n a = none) (ob : Obj) (r : Nat) (w : World) (hg : mapS l n ob) (hr : w.heap[r]? = some ob) : (Instr.lookup 112 (.map (some r)) (encA a) true).run Tryz.prog w = .ok (.tuple #[.int .i64 0, .bool false]) w := by
  rw [mapFn_lookup keyA Tryz.underlying112 zeroI hg hr a true, h]; rfl
theorem lookA {l : List Site} {n : Nat} {a : Int × Int} (ob : Obj) (r : Nat) (w : World) (hg : mapS l n ob) (hr : w.heap[r]? = some ob) : (Instr.lookup 112 (.map (some r)) (encA a) true).run Tryz.prog w = .ok (.tuple #[.int .i64 ((idxM l n a).getD 0), .bool (idxM l n a).isSome]) w := by
  rw [mapFn_lookup keyA Tryz.underlying112 zeroI hg hr a true]
  cases idxM l n a <;> rfl
theorem updS {l : List Site} {n : Nat} (ob : Obj) (r : Nat) (w : World) (hg : mapS l n ob) (hr : w.heap[r]? = some ob) : ∃ ob', (Instr.mapUpdate 112 (.map (some r)) (encA (addr (l.getD n default))) (.int .i64 n)).run Tryz.prog w = .ok () (w.putObj r ob') ∧ mapS l (n + 1) ob' ∧ ob'.isMap = true := by
  obtain ⟨o', h1, h2⟩ := mapFn_update keyA Tryz.underlying112 hg hr (addr (l.getD n default)) ((n : Nat) : Int)
  refine ⟨o', h1, ?_, h2.isM⟩
  have e : (fun k => if k = addr (l.getD n default) then some ((n : Nat) : Int) else idxM l n k) = idxM l (n + 1) := by funext k; rfl
  rw [e] at h2; exact h2
theorem rep_tupIB (z : Int) (b : Bool) (w : World) (M : Nat → Prop) : RepF w M (.tuple #[.int .i64 z, .bool b]) (.tup [iv z, bv b]) := by
  have R := RepL.cons (RepF.v (w := w) (M := M) (.int .i64 z)) (RepL.cons (RepF.v (w := w) (M := M) (.bool b)) (RepL.nil _ _))
  exact RepF.tup _ _ R.1 R.2
set_option maxRecDepth 100000 in
set_option maxHeartbeats 1600000 in
theorem openArray2_g (l : List Site) (i : Nat) (hi : i < l.length) (_hl : l.length ≤ 30) : SummG Tryz.prog GG 139 [.box [.f (.sl l.length (sitesF l)), .ow 1], .map (mapS l i)] [.f (iv i), .f (.agg (siteF l[i])), .f (.pt [.fn 137 []] 0), .bx 0 0] (.f (iv (siteE l i))) [.box [.f (.sl l.length (sitesF l)), .ow 1], .map (mapS l (i + 1))] := by
  have hgd := getD_at hi
  have updS' := updS (l := l) (n := i)
  rw [hgd] at updS'
  have hcase : idxM l i (addr l[i]) = none ∨ ∃ z, idxM l i (addr l[i]) = some z := by cases idxM l i (addr l[i]) <;> simp
  by_cases hp1 : 1 ≤ l[i].line ∧ l[i].line ≤ 100
  · by_cases hp2 : 1 ≤ l[i].sensor ∧ l[i].sensor ≤ 100
    · by_cases hp3 : -100000 ≤ l[i].x ∧ l[i].x ≤ 100000
      · by_cases hp4 : -100000 ≤ l[i].y ∧ l[i].y ≤ 100000
        · by_cases hp5 : -100000 ≤ l[i].z ∧ l[i].z ≤ 100000
          · have hR : siteRight l[i] := by unfold siteRight; exact ⟨hp1, hp2, hp3, hp4, hp5⟩
            rcases hcase with hkn | ⟨z, hks⟩
            · rw [show siteE l i = 0 by unfold siteE; rw [hgd]; rw [if_neg (by simpa using hR), if_neg (by rw [hkn]; simp)]]
              refine summG_of Tryz.func139 rfl rfl 60 rfl (by simp) (by simp) (fun i B B' h1 h2 => by
                  match i, h1, h2 with
    | 0, h1, h2 => cases h1; cases h2; rfl
    | 1, h1, h2 => cases h1; cases h2; rfl
    | _ + 2, h1, _ => simp at h1) (fun M X J => ?_)
              repeat (first
    | (apply s_lookupO (lookN hkn); exact rfl; exact rfl; exact rfl; exact rfl; exact rfl; exact rfl; exact rep_tupIB _ _)
    | (apply s_mapUpdate updS'; exact rfl; exact rfl; exact rfl; exact rfl; exact rfl; exact rfl)
    | (apply s_a TY; exact rfl)
    | apply w_seq
    | apply w_region
    | apply s_nil
    | apply t_norm
    | apply w_ret
    | (apply s_k1 (isPlace_T _); exact rfl; (first | assumption | omega | decide))
    | (apply s_k1 (first2_1 _ _); exact rfl; (first | assumption | omega | decide))
    | (apply s_k (unless_T _); exact rfl)
    | (apply s_k1 (isNumber_T _); exact rfl; (first | assumption | omega | decide))
    | (apply s_alloc TY; exact rfl; exact rfl; exact rfl)
    | (apply s_store TY; exact rfl; exact rfl; exact rfl; exact rfl; exact rfl; exact rfl))
              exact lvG_ret (L' := [.box [.f (.sl l.length (sitesF l)), .ow 1], .map (mapS l (i + 1))]) (s := (Ab.upd (fun _ => .bot) 6 (.f (iv 0)))) (nx := 2) (gh_le ⟨le_upd rfl trivial (le_nil _), le_hupd rfl (fun y hy => by simp at hy; rcases hy with rfl | rfl <;> first | trivial | rfl) (le_hupd rfl trivial (le_h0 _ _))⟩) (rg1 rfl (rv_tmp rfl))
            · rw [show siteE l i = 23 by unfold siteE; rw [hgd]; rw [if_neg (by simpa using hR), if_pos (by rw [hks]; simp)]]
              refine summG_of Tryz.func139 rfl rfl 60 rfl (by simp) (by simp) (fun i B B' h1 h2 => by
                  match i, h1, h2 with
    | 0, h1, h2 => cases h1; cases h2; rfl
    | 1, h1, h2 => cases h1; cases h2; rfl
    | _ + 2, h1, _ => simp at h1) (fun M X J => ?_)
              repeat (first
    | (apply s_lookupO (lookS hks); exact rfl; exact rfl; exact rfl; exact rfl; exact rfl; exact rfl; exact rep_tupIB _ _)
    | (apply s_mapUpdate updS'; exact rfl; exact rfl; exact rfl; exact rfl; exact rfl; exact rfl)
    | (apply s_a TY; exact rfl)
    | apply w_seq
    | apply w_region
    | apply s_nil
    | apply t_norm
    | apply w_ret
    | (apply s_k1 (isPlace_T _); exact rfl; (first | assumption | omega | decide))
    | (apply s_k1 (first2_1 _ _); exact rfl; (first | assumption | omega | decide))
    | (apply s_k (unless_T _); exact rfl)
    | (apply s_k (unless_F _); exact rfl)
    | (apply s_k1 (isNumber_T _); exact rfl; (first | assumption | omega | decide))
    | (apply s_alloc TY; exact rfl; exact rfl; exact rfl)
    | (apply s_store TY; exact rfl; exact rfl; exact rfl; exact rfl; exact rfl; exact rfl))
              exact lvG_ret (L' := [.box [.f (.sl l.length (sitesF l)), .ow 1], .map (mapS l (i + 1))]) (s := (Ab.upd (fun _ => .bot) 6 (.f (iv 23)))) (nx := 2) (gh_le ⟨le_upd rfl trivial (le_nil _), le_hupd rfl (fun y hy => by simp at hy; rcases hy with rfl | rfl <;> first | trivial | rfl) (le_hupd rfl trivial (le_h0 _ _))⟩) (rg1 rfl (rv_tmp rfl))
          · have hR : ¬ siteRight l[i] := by unfold siteRight; exact fun h => absurd h.2.2.2.2 hp5
            rw [show siteE l i = 2 by unfold siteE; rw [hgd]; rw [if_pos hR]]
            refine summG_of Tryz.func139 rfl rfl 60 rfl (by simp) (by simp) (fun i B B' h1 h2 => by
                match i, h1, h2 with
    | 0, h1, h2 => cases h1; cases h2; rfl
    | 1, h1, h2 => cases h1; cases h2; rfl
    | _ + 2, h1, _ => simp at h1) (fun M X J => ?_)
            repeat (first
    | (apply s_lookupO (lookA (l := l) (n := i) (a := addr l[i])); exact rfl; exact rfl; exact rfl; exact rfl; exact rfl; exact rfl; exact rep_tupIB _ _)
    | (apply s_mapUpdate updS'; exact rfl; exact rfl; exact rfl; exact rfl; exact rfl; exact rfl)
    | (apply s_a TY; exact rfl)
    | apply w_seq
    | apply w_region
    | apply s_nil
    | apply t_norm
    | apply w_ret
    | (apply s_k1 (isPlace_T _); exact rfl; (first | assumption | omega | decide))
    | (apply s_k1 (isPlace_F _); exact rfl; (first | assumption | omega | decide))
    | (apply s_k1 (first2_0 _ _); exact rfl; (first | assumption | omega | decide))
    | (apply s_k (unless_F _); exact rfl)
    | (apply s_k (unless_s _ _); exact rfl)
    | (apply s_k1 (isNumber_T _); exact rfl; (first | assumption | omega | decide))
    | (apply s_alloc TY; exact rfl; exact rfl; exact rfl)
    | (apply s_store TY; exact rfl; exact rfl; exact rfl; exact rfl; exact rfl; exact rfl))
            exact lvG_ret (L' := [.box [.f (.sl l.length (sitesF l)), .ow 1], .map (mapS l (i + 1))]) (s := (Ab.upd (fun _ => .bot) 6 (.f (iv 2)))) (nx := 2) (gh_le ⟨le_upd rfl trivial (le_nil _), le_hupd rfl (fun y hy => by simp at hy; rcases hy with rfl | rfl <;> first | trivial | rfl) (le_hupd rfl trivial (le_h0 _ _))⟩) (rg1 rfl (rv_tmp rfl))
        · have hR : ¬ siteRight l[i] := by unfold siteRight; exact fun h => absurd h.2.2.2.1 hp4
          rw [show siteE l i = 2 by unfold siteE; rw [hgd]; rw [if_pos hR]]
          refine summG_of Tryz.func139 rfl rfl 60 rfl (by simp) (by simp) (fun i B B' h1 h2 => by
              match i, h1, h2 with
    | 0, h1, h2 => cases h1; cases h2; rfl
    | 1, h1, h2 => cases h1; cases h2; rfl
    | _ + 2, h1, _ => simp at h1) (fun M X J => ?_)
          repeat (first
    | (apply s_lookupO (lookA (l := l) (n := i) (a := addr l[i])); exact rfl; exact rfl; exact rfl; exact rfl; exact rfl; exact rfl; exact rep_tupIB _ _)
    | (apply s_mapUpdate updS'; exact rfl; exact rfl; exact rfl; exact rfl; exact rfl; exact rfl)
    | (apply s_a TY; exact rfl)
    | apply w_seq
    | apply w_region
    | apply s_nil
    | apply t_norm
    | apply w_ret
    | (apply s_k1 (isPlace_T _); exact rfl; (first | assumption | omega | decide))
    | (apply s_k1 (isPlace_F _); exact rfl; (first | assumption | omega | decide))
    | (apply s_k1 (first2_0 _ _); exact rfl; (first | assumption | omega | decide))
    | (apply s_k (unless_F _); exact rfl)
    | (apply s_k (unless_s _ _); exact rfl)
    | (apply s_k1 (isNumber_T _); exact rfl; (first | assumption | omega | decide))
    | (apply s_s; exact rfl)
    | (apply s_alloc TY; exact rfl; exact rfl; exact rfl)
    | (apply s_store TY; exact rfl; exact rfl; exact rfl; exact rfl; exact rfl; exact rfl))
          exact lvG_ret (L' := [.box [.f (.sl l.length (sitesF l)), .ow 1], .map (mapS l (i + 1))]) (s := (Ab.upd (fun _ => .bot) 6 (.f (iv 2)))) (nx := 2) (gh_le ⟨le_upd rfl trivial (le_nil _), le_hupd rfl (fun y hy => by simp at hy; rcases hy with rfl | rfl <;> first | trivial | rfl) (le_hupd rfl trivial (le_h0 _ _))⟩) (rg1 rfl (rv_tmp rfl))
      · have hR : ¬ siteRight l[i] := by unfold siteRight; exact fun h => absurd h.2.2.1 hp3
        rw [show siteE l i = 2 by unfold siteE; rw [hgd]; rw [if_pos hR]]
        refine summG_of Tryz.func139 rfl rfl 60 rfl (by simp) (by simp) (fun i B B' h1 h2 => by
            match i, h1, h2 with
    | 0, h1, h2 => cases h1; cases h2; rfl
    | 1, h1, h2 => cases h1; cases h2; rfl
    | _ + 2, h1, _ => simp at h1) (fun M X J => ?_)
        repeat (first
    | (apply s_lookupO (lookA (l := l) (n := i) (a := addr l[i])); exact rfl; exact rfl; exact rfl; exact rfl; exact rfl; exact rfl; exact rep_tupIB _ _)
    | (apply s_mapUpdate updS'; exact rfl; exact rfl; exact rfl; exact rfl; exact rfl; exact rfl)
    | (apply s_a TY; exact rfl)
    | apply w_seq
    | apply w_region
    | apply s_nil
    | apply t_norm
    | apply w_ret
    | (apply s_k1 (isPlace_F _); exact rfl; (first | assumption | omega | decide))
    | (apply s_k1 (first2_0 _ _); exact rfl; (first | assumption | omega | decide))
    | (apply s_k (unless_F _); exact rfl)
    | (apply s_k (unless_s _ _); exact rfl)
    | (apply s_k1 (isNumber_T _); exact rfl; (first | assumption | omega | decide))
    | (apply s_s; exact rfl)
    | (apply s_alloc TY; exact rfl; exact rfl; exact rfl)
    | (apply s_store TY; exact rfl; exact rfl; exact rfl; exact rfl; exact rfl; exact rfl))
        exact lvG_ret (L' := [.box [.f (.sl l.length (sitesF l)), .ow 1], .map (mapS l (i + 1))]) (s := (Ab.upd (fun _ => .bot) 6 (.f (iv 2)))) (nx := 2) (gh_le ⟨le_upd rfl trivial (le_nil _), le_hupd rfl (fun y hy => by simp at hy; rcases hy with rfl | rfl <;> first | trivial | rfl) (le_hupd rfl trivial (le_h0 _ _))⟩) (rg1 rfl (rv_tmp rfl))
    · have hR : ¬ siteRight l[i] := by unfold siteRight; exact fun h => absurd h.2.1 hp2
      rw [show siteE l i = 2 by unfold siteE; rw [hgd]; rw [if_pos hR]]
      refine summG_of Tryz.func139 rfl rfl 60 rfl (by simp) (by simp) (fun i B B' h1 h2 => by
          match i, h1, h2 with
    | 0, h1, h2 => cases h1; cases h2; rfl
    | 1, h1, h2 => cases h1; cases h2; rfl
    | _ + 2, h1, _ => simp at h1) (fun M X J => ?_)
      repeat (first
    | (apply s_lookupO (lookA (l := l) (n := i) (a := addr l[i])); exact rfl; exact rfl; exact rfl; exact rfl; exact rfl; exact rfl; exact rep_tupIB _ _)
    | (apply s_mapUpdate updS'; exact rfl; exact rfl; exact rfl; exact rfl; exact rfl; exact rfl)
    | (apply s_a TY; exact rfl)
    | apply w_seq
    | apply w_region
    | apply s_nil
    | apply t_norm
    | apply w_ret
    | (apply s_k1 (first2_0 _ _); exact rfl; (first | assumption | omega | decide))
    | (apply s_k (unless_F _); exact rfl)
    | (apply s_k (unless_s _ _); exact rfl)
    | (apply s_k1 (isNumber_T _); exact rfl; (first | assumption | omega | decide))
    | (apply s_k1 (isNumber_F _); exact rfl; (first | assumption | omega | decide))
    | (apply s_s; exact rfl)
    | (apply s_alloc TY; exact rfl; exact rfl; exact rfl)
    | (apply s_store TY; exact rfl; exact rfl; exact rfl; exact rfl; exact rfl; exact rfl))
      exact lvG_ret (L' := [.box [.f (.sl l.length (sitesF l)), .ow 1], .map (mapS l (i + 1))]) (s := (Ab.upd (fun _ => .bot) 6 (.f (iv 2)))) (nx := 2) (gh_le ⟨le_upd rfl trivial (le_nil _), le_hupd rfl (fun y hy => by simp at hy; rcases hy with rfl | rfl <;> first | trivial | rfl) (le_hupd rfl trivial (le_h0 _ _))⟩) (rg1 rfl (rv_tmp rfl))
  · have hR : ¬ siteRight l[i] := by unfold siteRight; exact fun h => absurd h.1 hp1
    rw [show siteE l i = 2 by unfold siteE; rw [hgd]; rw [if_pos hR]]
    refine summG_of Tryz.func139 rfl rfl 60 rfl (by simp) (by simp) (fun i B B' h1 h2 => by
        match i, h1, h2 with
    | 0, h1, h2 => cases h1; cases h2; rfl
    | 1, h1, h2 => cases h1; cases h2; rfl
    | _ + 2, h1, _ => simp at h1) (fun M X J => ?_)
    repeat (first
    | (apply s_lookupO (lookA (l := l) (n := i) (a := addr l[i])); exact rfl; exact rfl; exact rfl; exact rfl; exact rfl; exact rfl; exact rep_tupIB _ _)
    | (apply s_mapUpdate updS'; exact rfl; exact rfl; exact rfl; exact rfl; exact rfl; exact rfl)
    | (apply s_a TY; exact rfl)
    | apply w_seq
    | apply w_region
    | apply s_nil
    | apply t_norm
    | apply w_ret
    | (apply s_k1 (first2_0 _ _); exact rfl; (first | assumption | omega | decide))
    | (apply s_k (unless_F _); exact rfl)
    | (apply s_k (unless_s _ _); exact rfl)
    | (apply s_k1 (isNumber_F _); exact rfl; (first | assumption | omega | decide))
    | (apply s_s; exact rfl)
    | (apply s_alloc TY; exact rfl; exact rfl; exact rfl)
    | (apply s_store TY; exact rfl; exact rfl; exact rfl; exact rfl; exact rfl; exact rfl))
    exact lvG_ret (L' := [.box [.f (.sl l.length (sitesF l)), .ow 1], .map (mapS l (i + 1))]) (s := (Ab.upd (fun _ => .bot) 6 (.f (iv 2)))) (nx := 2) (gh_le ⟨le_upd rfl trivial (le_nil _), le_hupd rfl (fun y hy => by simp at hy; rcases hy with rfl | rfl <;> first | trivial | rfl) (le_hupd rfl trivial (le_h0 _ _))⟩) (rg1 rfl (rv_tmp rfl))
end Go.Proofs.YtdmdpkoapllkkaaGreat
namespace Go.Proofs.YtdmdpkoapllkkaaGreat
open Go Go.RowKit Go.Proofs Go.Shelf Go.Ab
set_option maxRecDepth 100000 in
set_option maxHeartbeats 1600000 in
theorem eachSite_g (l : List Site) (hl : l.length ≤ 30) : SummG Tryz.prog GG 138 [.box [.f (.sl l.length (sitesF l)), .ow 1], .map (mapS l 0)] [.f (.sl l.length (sitesF l)), .fb 139 [.f (.pt [.fn 137 []] 0), .bx 0 0]] (.f (.tup [iv (eachE l.length (siteE l)).1, iv (eachE l.length (siteE l)).2])) [.box [.f (.sl l.length (sitesF l)), .ow 1], .map (mapS l (if (eachE l.length (siteE l)).2 = 0 then l.length else (eachE l.length (siteE l)).1 + 1))] := by
  rcases eachE_cases l.length (siteE l) with ⟨he, hz⟩ | ⟨q, hq, hz, hne, he⟩
  · rw [he]
    simp only [if_true]
    refine summG_of Tryz.func138 rfl rfl 25 rfl (by simp) (by simp) (fun i B B' h1 h2 => by
    match i, h1, h2 with
    | 0, h1, h2 => cases h1; cases h2; rfl
    | 1, h1, h2 => cases h1; cases h2; rfl
    | _ + 2, h1, _ => simp at h1) (fun M X J => ?_)
    repeat (first
    | (apply s_a TY; exact rfl)
    | apply w_seq
    | apply w_region
    | apply s_nil
    | apply t_norm
    | apply w_block)
    apply w_loop (fun k : Nat => ⟨(Ab.upd (Ab.upd (Ab.upd (Ab.upd (fun _ => .bot) 1 (.fb 139 [.f (.pt [.fn 137 []] 0), .bx 0 0])) 9 (.f (.sl l.length (sitesF l)))) 10 (.f (iv l.length))) 11 (.f (iv (k : Nat)))), (Ab.upd (Ab.upd (fun _ => none) 1 (some (.map (mapS l k)))) 0 (some (.box [.f (.sl l.length (sitesF l)), .ow 1]))), 2⟩) (fun k => k ≤ l.length) (fun k => l.length - k) 0 (Nat.zero_le _) (gh_le ⟨le_upd rfl trivial (le_upd rfl trivial (le_upd rfl trivial (le_upd rfl rfl (le_nil _)))), le_hupd rfl (fun y hy => by simp at hy; rcases hy with rfl | rfl <;> first | trivial | rfl) (le_hupd rfl trivial (le_h0 _ _))⟩)
    intro k hk
    by_cases hc : k < l.length
    · have Hc := openArray2_g l k hc hl
      rw [hz k hc] at Hc
      repeat (first
    | (apply s_a TY; exact rfl)
    | (apply s_t; exact rfl; (first | assumption | omega))
    | apply w_seq
    | apply w_region
    | apply s_nil
    | apply t_norm
    | apply k_norm
    | apply w_block
    | apply w_skip
    | (apply w_condT; exact rfl; exact rfl)
    | (apply w_condF; exact rfl; exact rfl)
    | (apply s_callG [0,1] (Hc); exact rfl; exact rfl; exact rfl; exact ⟨rfl, ⟨rfl, trivial⟩⟩; exact rfl; (first | exact ⟨rfl, rfl⟩ | exact ⟨⟨rfl, rfl⟩, ⟨rfl, rfl⟩⟩ | exact ⟨⟨rfl, rfl⟩, ⟨rfl, rfl⟩, ⟨rfl, rfl⟩⟩))
    | (apply s_c TY; exact rfl; (first | omega | exact ⟨by omega, by (first | with_reducible assumption | ((with_reducible apply sitesF_ne); omega) | assumption)⟩))
    | (apply s_m TY; exact rfl; (first | with_reducible assumption | ((with_reducible apply sitesF_sub); omega) | exact rfl); exact rfl)
    | (apply s_alloc TY; exact rfl; exact rfl; exact rfl)
    | (apply s_store TY; exact rfl; exact rfl; exact rfl; exact rfl; exact rfl; exact rfl))
      exact ⟨k + 1, by omega, by omega, gh_le ⟨le_upd rfl trivial (le_upd rfl trivial (le_upd rfl trivial (le_upd rfl rfl (le_nil _)))), le_hupd rfl (fun y hy => by simp at hy; rcases hy with rfl | rfl <;> first | trivial | rfl) (le_hupd rfl trivial (le_h0 _ _))⟩⟩
    · have e : k = l.length := by omega
      subst e
      repeat (first
    | (apply s_a TY; exact rfl)
    | (apply s_f; exact rfl; (first | assumption | omega))
    | apply w_seq
    | apply w_region
    | apply s_nil
    | apply t_norm
    | apply t_exit
    | apply k_hit
    | apply w_exit
    | apply w_ret
    | (apply w_condF; exact rfl; exact rfl))
      exact lvG_ret (L' := [.box [.f (.sl l.length (sitesF l)), .ow 1], .map (mapS l l.length)]) (s := (Ab.upd (Ab.upd (fun _ => .bot) 4 (.f (iv ((0 : Nat) : Int)))) 5 (.f (iv 0)))) (nx := 2) (gh_le ⟨le_upd rfl trivial (le_upd rfl trivial (le_nil _)), le_hupd rfl (fun y hy => by simp at hy; rcases hy with rfl | rfl <;> first | trivial | rfl) (le_hupd rfl trivial (le_h0 _ _))⟩) (rg2 (.f (iv ((0 : Nat) : Int))) (.f (iv 0)) rfl (rv_tmp rfl) (rv_tmp rfl) rfl)
  · rw [he]
    simp only [if_neg hne]
    refine summG_of Tryz.func138 rfl rfl 25 rfl (by simp) (by simp) (fun i B B' h1 h2 => by
    match i, h1, h2 with
    | 0, h1, h2 => cases h1; cases h2; rfl
    | 1, h1, h2 => cases h1; cases h2; rfl
    | _ + 2, h1, _ => simp at h1) (fun M X J => ?_)
    repeat (first
    | (apply s_a TY; exact rfl)
    | apply w_seq
    | apply w_region
    | apply s_nil
    | apply t_norm
    | apply w_block)
    apply w_loop (fun k : Nat => ⟨(Ab.upd (Ab.upd (Ab.upd (Ab.upd (fun _ => .bot) 1 (.fb 139 [.f (.pt [.fn 137 []] 0), .bx 0 0])) 9 (.f (.sl l.length (sitesF l)))) 10 (.f (iv l.length))) 11 (.f (iv (k : Nat)))), (Ab.upd (Ab.upd (fun _ => none) 1 (some (.map (mapS l k)))) 0 (some (.box [.f (.sl l.length (sitesF l)), .ow 1]))), 2⟩) (fun k => k ≤ q) (fun k => q - k) 0 (Nat.zero_le _) (gh_le ⟨le_upd rfl trivial (le_upd rfl trivial (le_upd rfl trivial (le_upd rfl rfl (le_nil _)))), le_hupd rfl (fun y hy => by simp at hy; rcases hy with rfl | rfl <;> first | trivial | rfl) (le_hupd rfl trivial (le_h0 _ _))⟩)
    intro k hk
    have hc : k < l.length := by omega
    have Hc := openArray2_g l k hc hl
    by_cases hkq : k = q
    · subst hkq
      repeat (first
    | (apply s_a TY; exact rfl)
    | (apply s_t; exact rfl; (first | assumption | omega))
    | (apply s_f; exact rfl; (first | assumption | omega))
    | apply w_seq
    | apply w_region
    | apply s_nil
    | apply t_norm
    | apply t_ret
    | apply k_ret
    | apply w_block
    | apply w_ret
    | apply w_skip
    | (apply w_condT; exact rfl; exact rfl)
    | (apply s_callG [0,1] (Hc); exact rfl; exact rfl; exact rfl; exact ⟨rfl, ⟨rfl, trivial⟩⟩; exact rfl; (first | exact ⟨rfl, rfl⟩ | exact ⟨⟨rfl, rfl⟩, ⟨rfl, rfl⟩⟩ | exact ⟨⟨rfl, rfl⟩, ⟨rfl, rfl⟩, ⟨rfl, rfl⟩⟩))
    | (apply s_c TY; exact rfl; (first | omega | exact ⟨by omega, by (first | with_reducible assumption | ((with_reducible apply sitesF_ne); omega) | assumption)⟩))
    | (apply s_m TY; exact rfl; (first | with_reducible assumption | ((with_reducible apply sitesF_sub); omega) | exact rfl); exact rfl)
    | (apply s_alloc TY; exact rfl; exact rfl; exact rfl)
    | (apply s_store TY; exact rfl; exact rfl; exact rfl; exact rfl; exact rfl; exact rfl))
      exact lvG_ret (L' := [.box [.f (.sl l.length (sitesF l)), .ow 1], .map (mapS l (k + 1))]) (s := (Ab.upd (Ab.upd (fun _ => .bot) 4 (.f (iv (k : Nat)))) 5 (.f (iv (siteE l k))))) (nx := 2) (gh_le ⟨le_upd rfl trivial (le_upd rfl trivial (le_nil _)), le_hupd rfl (fun y hy => by simp at hy; rcases hy with rfl | rfl <;> first | trivial | rfl) (le_hupd rfl trivial (le_h0 _ _))⟩) (rg2 (.f (iv (k : Nat))) (.f (iv (siteE l k))) rfl (rv_tmp rfl) (rv_tmp rfl) rfl)
    · rw [hz k (by omega)] at Hc
      repeat (first
    | (apply s_a TY; exact rfl)
    | (apply s_t; exact rfl; (first | assumption | omega))
    | apply w_seq
    | apply w_region
    | apply s_nil
    | apply t_norm
    | apply k_norm
    | apply w_block
    | apply w_skip
    | (apply w_condT; exact rfl; exact rfl)
    | (apply w_condF; exact rfl; exact rfl)
    | (apply s_callG [0,1] (Hc); exact rfl; exact rfl; exact rfl; exact ⟨rfl, ⟨rfl, trivial⟩⟩; exact rfl; (first | exact ⟨rfl, rfl⟩ | exact ⟨⟨rfl, rfl⟩, ⟨rfl, rfl⟩⟩ | exact ⟨⟨rfl, rfl⟩, ⟨rfl, rfl⟩, ⟨rfl, rfl⟩⟩))
    | (apply s_c TY; exact rfl; (first | omega | exact ⟨by omega, by (first | with_reducible assumption | ((with_reducible apply sitesF_ne); omega) | assumption)⟩))
    | (apply s_m TY; exact rfl; (first | with_reducible assumption | ((with_reducible apply sitesF_sub); omega) | exact rfl); exact rfl)
    | (apply s_alloc TY; exact rfl; exact rfl; exact rfl)
    | (apply s_store TY; exact rfl; exact rfl; exact rfl; exact rfl; exact rfl; exact rfl))
      exact ⟨k + 1, by omega, by omega, gh_le ⟨le_upd rfl trivial (le_upd rfl trivial (le_upd rfl trivial (le_upd rfl rfl (le_nil _)))), le_hupd rfl (fun y hy => by simp at hy; rcases hy with rfl | rfl <;> first | trivial | rfl) (le_hupd rfl trivial (le_h0 _ _))⟩⟩
def arrayV (l : List Site) : FV := .agg [.sl l.length (sitesF l), .mp (mapS l l.length)]
theorem openArray_ok (l : List Site) (hlen : l.length ≤ 1000000) (h : (arrChk l).2 = 0) : Summ Tryz.prog GG 102 [arrF l] (.tup [arrayV l, iv 0, iv 0]) := by
  have hn : l.length ≠ 0 := fun hn => by unfold arrChk at h; rw [if_pos hn] at h; cases h
  have h30 : ¬ 30 < l.length := fun h3 => by unfold arrChk at h; rw [if_neg hn, if_pos h3] at h; cases h
  have HA : arrChk l = eachE l.length (siteE l) := by unfold arrChk; rw [if_neg hn, if_neg h30]
  rw [HA] at h
  have HG := eachSite_g l (by omega)
  rw [if_pos h] at HG
  have h0 : eachE l.length (siteE l) = (0, 0) := by
    rcases eachE_cases l.length (siteE l) with ⟨he, _⟩ | ⟨q, _, _, hne, he⟩
    · exact he
    · rw [he] at h; exact absurd h hne
  rw [h0] at HG
  refine summW Tryz.func102 rfl rfl 39 rfl (by simp) (fun M0 => ?_)
  repeat (first
    | (apply s_a TY; exact rfl)
    | (apply s_makefbC; exact rfl; exact rfl; exact rfl)
    | (apply s_buildO TY; exact rfl; exact rfl; exact rfl; exact rfl; exact rfl; exact rfl)
    | (apply s_makeMap; exact rfl; exact rfl)
    | (apply s_t; exact rfl; (first | assumption | omega))
    | apply w_seq
    | apply w_region
    | (apply w_draw (id := 2) 9 rfl (by kernel_rfl))
    | apply s_nil
    | apply t_norm
    | apply w_skip
    | (apply w_condF; exact rfl; exact rfl)
    | (apply s_k1 (first2_1 _ _); exact rfl; (first | assumption | omega | decide))
    | (apply s_k (unless_T _); exact rfl)
    | (apply s_alloc TY; exact rfl; exact rfl; exact rfl)
    | (apply s_store TY; exact rfl; exact rfl; exact rfl; exact rfl; exact rfl; exact rfl))
  refine s_ghost rfl (gh_mapW 1 (mapS l 0) rfl (fun o h => by subst h; exact mapFn_new)) ?_
  refine s_ghost rfl (gh_box 3 (cs := [.fn 137 []]) rfl rfl) ?_
  repeat (first
    | (apply s_a TY; exact rfl)
    | (apply s_o TY; exact rfl)
    | apply w_seq
    | apply w_region
    | apply s_nil
    | apply t_norm
    | apply w_ret
    | (apply s_callG [2,1] (HG); exact rfl; exact rfl; exact rfl; exact ⟨rfl, ⟨rfl, trivial⟩⟩; exact rfl; (first | exact ⟨rfl, rfl⟩ | exact ⟨⟨rfl, rfl⟩, ⟨rfl, rfl⟩⟩ | exact ⟨⟨rfl, rfl⟩, ⟨rfl, rfl⟩, ⟨rfl, rfl⟩⟩))
    | (apply s_store TY; exact rfl; exact rfl; exact rfl; exact rfl; exact rfl; exact rfl))
  exact lv_ret (ret_gh (gh_map 1 (mapS l l.length) rfl (fun _ h => h)) (ret3 rfl (res_bxs (sub := [.sl l.length (sitesF l), .mp (mapS l l.length)]) TY rfl rfl rfl rfl rfl) (res_tmp rfl) (res_tmp rfl)))
end Go.Proofs.YtdmdpkoapllkkaaGreat
namespace Go.Proofs.YtdmdpkoapllkkaaGreat
open Go Go.RowKit Go.Proofs Go.Shelf Go.Ab
def before (a b : Hit) : Prop := a.tm < b.tm ∨ (a.tm = b.tm ∧ (a.line < b.line ∨ (a.line = b.line ∧ a.sensor < b.sensor)))
instance (a b : Hit) : Decidable (before a b) := by unfold before; infer_instance
def cmpI (a b : Int) : Int := if a < b then -1 else if b < a then 1 else 0
def cmpHit (a b : Hit) : Int := firstE [cmpI a.tm b.tm, cmpI a.line b.line, cmpI a.sensor b.sensor]
theorem cmpHit_neg (a b : Hit) : cmpHit a b < 0 ↔ before a b := by
  unfold cmpHit firstE firstE firstE firstE cmpI before
  repeat (first | omega | split)
def hitA (h : Hit) : Int × Int := (h.line, h.sensor)
def siteM (l : List Site) (h : Hit) : Option Int := idxM l l.length (hitA h)
def hitE (l : List Site) (h : List Hit) (i : Nat) : Int := firstE [unlessE (withinB (h.getD i default).tm 0 1000000000000) 2, unlessE (siteM l (h.getD i default)).isSome 6, unlessE (decide (i = 0) || decide (before (h.getD (i - 1) default) (h.getD i default))) 9]
def hitsChk (l : List Site) (h : List Hit) : Nat × Int := if 40 < h.length then (0, 8) else eachE h.length (hitE l h)
theorem lookF {l : List Site} {a : Int × Int} (ob : Obj) (r : Nat) (w : World) (hg : mapS l l.length ob) (hr : w.heap[r]? = some ob) : (Instr.lookup 112 (.map (some r)) (encA a) true).run Tryz.prog w = .ok (.tuple #[.int .i64 ((idxM l l.length a).getD 0), .bool (idxM l l.length a).isSome]) w := lookA ob r w hg hr
set_option maxRecDepth 100000 in
theorem site_s (l : List Site) (h : Hit) : Summ Tryz.prog GG 135 [arrayV l, .agg (hitF h)] (.tup [iv ((siteM l h).getD 0), bv (siteM l h).isSome]) := by
  refine summW Tryz.func135 rfl rfl 21 rfl (by simp) (fun M0 => ?_)
  repeat (first
    | (apply s_lookupF (lookF (l := l) (a := (h.line, h.sensor))); exact rfl; exact rfl; exact rfl; exact rfl; exact rfl; exact rep_tupIB _ _)
    | (apply s_a TY; exact rfl)
    | apply w_seq
    | apply w_region
    | apply s_nil
    | apply t_norm
    | apply w_ret)
  exact lv_ret (ret2 rfl (res_tmp rfl) (res_tmp rfl))
theorem isNaN_s (n : Int) : Summ Tryz.prog GG 175 [iv n] (.v (.bool false)) := by
  refine summW Tryz.func175 rfl rfl 6 rfl (by simp) (fun M0 => ?_)
  repeat (first
    | (apply s_a TY; exact rfl)
    | (apply s_t; exact rfl; (first | assumption | omega))
    | apply w_seq
    | apply w_region
    | apply s_nil
    | apply t_norm
    | apply w_ret)
  exact lv_ret (ret1 rfl (res_tmp rfl))
theorem Compare_s (a b : Int) : Summ Tryz.prog GG 157 [iv a, iv b] (iv (cmpI a b)) := by
  by_cases h1 : a < b
  · rw [show cmpI a b = -1 by unfold cmpI; repeat (first | omega | split)]
    refine summW Tryz.func157 rfl rfl 20 rfl (by simp) (fun M0 => ?_)
    repeat (first
    | (apply s_a TY; exact rfl)
    | (apply s_t; exact rfl; (first | assumption | omega))
    | apply w_seq
    | apply w_region
    | apply s_nil
    | apply t_norm
    | apply t_ret
    | apply w_ret
    | apply w_skip
    | (apply w_condT; exact rfl; exact rfl)
    | (apply w_condF; exact rfl; exact rfl)
    | (apply s_k (isNaN_s _); exact rfl))
    exact lv_ret (ret1 rfl (res_tmp rfl))
  · by_cases h2 : b < a
    · rw [show cmpI a b = 1 by unfold cmpI; repeat (first | omega | split)]
      refine summW Tryz.func157 rfl rfl 20 rfl (by simp) (fun M0 => ?_)
      repeat (first
    | (apply s_a TY; exact rfl)
    | (apply s_t; exact rfl; (first | assumption | omega))
    | (apply s_f; exact rfl; (first | assumption | omega))
    | apply w_seq
    | apply w_region
    | apply s_nil
    | apply t_norm
    | apply t_ret
    | apply w_ret
    | apply w_skip
    | (apply w_condT; exact rfl; exact rfl)
    | (apply w_condF; exact rfl; exact rfl)
    | (apply s_k (isNaN_s _); exact rfl))
      exact lv_ret (ret1 rfl (res_tmp rfl))
    · rw [show cmpI a b = 0 by unfold cmpI; repeat (first | omega | split)]
      refine summW Tryz.func157 rfl rfl 20 rfl (by simp) (fun M0 => ?_)
      repeat (first
    | (apply s_a TY; exact rfl)
    | (apply s_f; exact rfl; (first | assumption | omega))
    | apply w_seq
    | apply w_region
    | apply s_nil
    | apply t_norm
    | apply w_ret
    | apply w_skip
    | (apply w_condF; exact rfl; exact rfl)
    | (apply s_k (isNaN_s _); exact rfl))
      exact lv_ret (ret1 rfl (res_tmp rfl))
set_option maxRecDepth 100000 in
theorem Or_s (l : List Int) (hl : l.length ≤ 1000000) : Summ Tryz.prog GG 156 [.sl l.length (intsF l)] (iv (firstE l)) := by
  refine summW Tryz.func156 rfl rfl 18 rfl (by simp) (fun M0 => ?_)
  repeat (first
    | (apply s_a TY; exact rfl)
    | apply w_seq
    | apply w_region
    | apply s_nil
    | apply t_norm
    | apply w_block)
  apply w_loop (fun k : Nat => ⟨(Ab.upd (Ab.upd (Ab.upd (Ab.upd (fun _ => .bot) 3 (.f (iv 0))) 6 (.f (.sl l.length (intsF l)))) 7 (.f (iv l.length))) 8 (.f (iv (k : Nat)))), (fun _ => none), 0⟩) (fun k => k ≤ l.length ∧ ∀ j (hj : j < l.length), j < k → l[j] = 0) (fun k => l.length - k) 0 (⟨Nat.zero_le _, fun j _ h => absurd h (Nat.not_lt_zero j)⟩) (gh_le ⟨le_upd rfl trivial (le_upd rfl trivial (le_upd rfl trivial (le_upd rfl trivial (le_nil _)))), le_h0 _ _⟩)
  intro k ⟨hk, hz⟩
  by_cases hc : k < l.length
  · by_cases he : l[k] = 0
    · repeat (first
    | (apply s_a TY; exact rfl)
    | (apply s_t; exact rfl; (first | assumption | omega))
    | apply w_seq
    | apply w_region
    | apply s_nil
    | apply t_norm
    | apply k_norm
    | apply w_block
    | apply w_skip
    | (apply w_condT; exact rfl; exact rfl)
    | (apply w_condF; exact rfl; exact rfl)
    | (apply s_c TY; exact rfl; (first | omega | exact ⟨by omega, by (first | with_reducible assumption | ((with_reducible apply intsF_ne); omega) | assumption)⟩))
    | (apply s_l TY; exact rfl; (first | exact rfl | with_reducible assumption | ((with_reducible apply intsF_at); omega) | assumption)))
      exact ⟨k + 1, ⟨by omega, fun j hj hlt => by
        by_cases e : j = k
        · subst e; exact he
        · exact hz j hj (by omega)⟩, by omega, gh_le ⟨le_upd rfl trivial (le_upd rfl trivial (le_upd rfl trivial (le_upd rfl trivial (le_nil _)))), le_h0 _ _⟩⟩
    · rw [firstE_at hc (fun j hj hlt => hz j hj hlt) he]
      repeat (first
    | (apply s_a TY; exact rfl)
    | (apply s_t; exact rfl; (first | assumption | omega))
    | (apply s_f; exact rfl; (first | assumption | omega))
    | apply w_seq
    | apply w_region
    | apply s_nil
    | apply t_norm
    | apply t_ret
    | apply k_ret
    | apply w_block
    | apply w_ret
    | apply w_skip
    | (apply w_condT; exact rfl; exact rfl)
    | (apply s_c TY; exact rfl; (first | omega | exact ⟨by omega, by (first | with_reducible assumption | ((with_reducible apply intsF_ne); omega) | assumption)⟩))
    | (apply s_l TY; exact rfl; (first | exact rfl | with_reducible assumption | ((with_reducible apply intsF_at); omega) | assumption)))
      exact lv_ret (ret1 rfl (res_tmp rfl))
  · rw [firstE_zeros (fun j hj => hz j hj (by omega))]
    repeat (first
    | (apply s_a TY; exact rfl)
    | (apply s_f; exact rfl; (first | assumption | omega))
    | apply w_seq
    | apply w_region
    | apply s_nil
    | apply t_norm
    | apply t_exit
    | apply k_hit
    | apply w_exit
    | apply w_ret
    | (apply w_condF; exact rfl; exact rfl))
    exact lv_ret (ret1 rfl (res_tmp rfl))
theorem Or3_s (a b c : Int) : Summ Tryz.prog GG 156 [.sl 3 [iv a, iv b, iv c]] (iv (firstE [a, b, c])) := Or_s [a, b, c] (by simp)
theorem compare_s (a b : Hit) : Summ Tryz.prog GG 122 [.agg (hitF a), .agg (hitF b)] (iv (cmpHit a b)) := by
  refine summW Tryz.func122 rfl rfl 22 rfl (by simp) (fun M0 => ?_)
  repeat (first
    | (apply s_a TY; exact rfl)
    | apply w_seq
    | apply w_region
    | (apply w_draw (id := 1) 14 rfl (by kernel_rfl))
    | apply s_nil
    | apply t_norm
    | apply w_ret
    | (apply s_k (Or3_s _ _ _); exact rfl)
    | (apply s_k (Compare_s _ _); exact rfl))
  exact lv_ret (ret1 rfl (res_tmp rfl))
set_option maxRecDepth 100000 in
theorem hitsErr1_s (l : List Site) (h : List Hit) (i : Nat) (hi : i < h.length) (hl : h.length ≤ 40) : Summ Tryz.prog GG 151 [iv i, .agg (hitF h[i]), .pt [.sl l.length (sitesF l), .mp (mapS l l.length)] 0, .pt [.sl h.length (hitsF h)] 0] (iv (hitE l h i)) := by
  have hg := getD_at hi
  have hg1 : h.getD (i - 1) default = h[i - 1] := getD_at (by omega)
  by_cases h0 : i = 0
  · rw [show hitE l h i = firstE [unlessE (withinB h[i].tm 0 1000000000000) 2, unlessE (siteM l h[i]).isSome 6, 0] by subst h0; unfold hitE; rw [hg]; simp [unlessE]]
    refine summW Tryz.func151 rfl rfl 37 rfl (by simp) (fun M0 => ?_)
    repeat (first
    | (apply s_a TY; exact rfl)
    | (apply s_t; exact rfl; (first | assumption | omega))
    | apply w_seq
    | apply w_region
    | (apply w_draw (id := 2) 16 rfl (by kernel_rfl))
    | apply s_nil
    | apply t_norm
    | apply w_ret
    | (apply s_k (first3_s _ _ _); exact rfl)
    | (apply s_k (unless_T _); exact rfl)
    | (apply s_k (unless_s _ _); exact rfl)
    | (apply s_k (isTick_s _); exact rfl)
    | (apply s_k (site_s _ _); exact rfl)
    | (apply s_s; exact rfl))
    exact lv_ret (ret1 rfl (res_tmp rfl))
  · by_cases hb : before h[i - 1] h[i]
    · have hmx : (max 0 ((i : Int) - 1)).toNat = i - 1 := by omega
      have hbc : cmpHit (h[(max 0 ((i : Int) - 1)).toNat]'(by omega)) h[i] < 0 := by simp only [hmx]; exact (cmpHit_neg h[i - 1] h[i]).2 hb
      rw [show hitE l h i = firstE [unlessE (withinB h[i].tm 0 1000000000000) 2, unlessE (siteM l h[i]).isSome 6, 0] by unfold hitE; rw [hg, hg1]; simp [unlessE, h0, hb]]
      refine summW Tryz.func151 rfl rfl 37 rfl (by simp) (fun M0 => ?_)
      repeat (first
    | (apply s_a TY; exact rfl)
    | (apply s_t; exact rfl; (first | assumption | omega))
    | (apply s_f; exact rfl; (first | assumption | omega))
    | apply w_seq
    | apply w_region
    | (apply w_draw (id := 2) 16 rfl (by kernel_rfl))
    | apply s_nil
    | apply t_norm
    | apply w_ret
    | (apply s_k (first3_s _ _ _); exact rfl)
    | (apply s_k (unless_T _); exact rfl)
    | (apply s_k (unless_s _ _); exact rfl)
    | (apply s_k (isTick_s _); exact rfl)
    | (apply s_k (compare_s _ _); exact rfl)
    | (apply s_k (site_s _ _); exact rfl)
    | (apply s_c TY; exact rfl; (first | omega | exact ⟨by omega, by (first | with_reducible assumption | ((with_reducible apply hitsF_ne); omega) | assumption)⟩))
    | (apply s_z TY; exact rfl; (first | omega | exact ⟨by omega, by (first | with_reducible assumption | ((with_reducible apply hitsF_ne); omega) | assumption)⟩))
    | (apply s_m TY; exact rfl; (first | with_reducible assumption | ((with_reducible apply hitsF_sub); omega) | exact rfl); exact rfl))
      exact lv_ret (ret1 rfl (res_tmp rfl))
    · have hmx : (max 0 ((i : Int) - 1)).toNat = i - 1 := by omega
      have hbc : ¬ cmpHit (h[(max 0 ((i : Int) - 1)).toNat]'(by omega)) h[i] < 0 := by simp only [hmx]; exact mt (cmpHit_neg h[i - 1] h[i]).1 hb
      rw [show hitE l h i = firstE [unlessE (withinB h[i].tm 0 1000000000000) 2, unlessE (siteM l h[i]).isSome 6, 9] by unfold hitE; rw [hg, hg1]; simp [unlessE, h0, hb]]
      refine summW Tryz.func151 rfl rfl 37 rfl (by simp) (fun M0 => ?_)
      repeat (first
    | (apply s_a TY; exact rfl)
    | (apply s_f; exact rfl; (first | assumption | omega))
    | apply w_seq
    | apply w_region
    | (apply w_draw (id := 2) 16 rfl (by kernel_rfl))
    | apply s_nil
    | apply t_norm
    | apply w_ret
    | (apply s_k (first3_s _ _ _); exact rfl)
    | (apply s_k (unless_F _); exact rfl)
    | (apply s_k (unless_s _ _); exact rfl)
    | (apply s_k (isTick_s _); exact rfl)
    | (apply s_k (compare_s _ _); exact rfl)
    | (apply s_k (site_s _ _); exact rfl)
    | (apply s_c TY; exact rfl; (first | omega | exact ⟨by omega, by (first | with_reducible assumption | ((with_reducible apply hitsF_ne); omega) | assumption)⟩))
    | (apply s_z TY; exact rfl; (first | omega | exact ⟨by omega, by (first | with_reducible assumption | ((with_reducible apply hitsF_ne); omega) | assumption)⟩))
    | (apply s_m TY; exact rfl; (first | with_reducible assumption | ((with_reducible apply hitsF_sub); omega) | exact rfl); exact rfl))
      exact lv_ret (ret1 rfl (res_tmp rfl))
set_option maxRecDepth 100000 in
theorem hitsErr_s (l : List Site) (h : List Hit) (hl : h.length ≤ 1000000) : Summ Tryz.prog GG 119 [arrayV l, .sl h.length (hitsF h)] (.tup [iv (hitsChk l h).1, iv (hitsChk l h).2]) := by
  by_cases h40 : 40 < h.length
  · rw [show hitsChk l h = (0, 8) by unfold hitsChk; rw [if_pos h40]]
    refine summW Tryz.func119 rfl rfl 14 rfl (by simp) (fun M0 => ?_)
    repeat (first
    | (apply s_a TY; exact rfl)
    | (apply s_t; exact rfl; (first | assumption | omega))
    | apply w_seq
    | apply w_region
    | apply s_nil
    | apply t_norm
    | apply t_ret
    | apply w_ret
    | (apply w_condT; exact rfl; exact rfl))
    exact lv_ret (ret2 rfl (res_tmp rfl) (res_tmp rfl))
  · rw [show hitsChk l h = eachE h.length (hitE l h) by unfold hitsChk; rw [if_neg h40]]
    have HE := eachHit_s h 151 [.pt [.sl l.length (sitesF l), .mp (mapS l l.length)] 0, .pt [.sl h.length (hitsF h)] 0] (hitE l h) hl (fun i hi => hitsErr1_s l h i hi (by omega))
    refine summW Tryz.func119 rfl rfl 14 rfl (by simp) (fun M0 => ?_)
    repeat (first
    | (apply s_a TY; exact rfl)
    | (apply s_makefn; exact rfl; exact rfl)
    | (apply s_f; exact rfl; (first | assumption | omega))
    | apply w_seq
    | apply w_region
    | apply s_nil
    | apply t_norm
    | apply w_ret
    | apply w_skip
    | (apply w_condF; exact rfl; exact rfl)
    | (apply s_k (HE); exact rfl))
    exact lv_ret (ret2 rfl (res_tmp rfl) (res_tmp rfl))
end Go.Proofs.YtdmdpkoapllkkaaGreat
namespace Go.Proofs.YtdmdpkoapllkkaaGreat
open Go Go.RowKit Go.Proofs Go.Shelf Go.Ab
def siteX (l : List Site) (a : Int × Int) : Option Nat := (List.range l.length).find? fun k => decide (addr (l.getD k default) = a)
theorem siteX_at {l : List Site} {a : Int × Int} {k : Nat} (hk : k < l.length) (h : ∀ i, i < k → addr (l.getD i default) ≠ a) (he : addr (l.getD k default) = a) : siteX l a = some k := by
  unfold siteX
  obtain ⟨m, hm⟩ : ∃ m, l.length = k + 1 + m := ⟨l.length - k - 1, by omega⟩
  rw [hm, List.range_add, List.range_succ, List.append_assoc, List.find?_append, List.find?_eq_none.2 (fun i hi => by simpa using h i (List.mem_range.1 hi)), Option.none_or, List.singleton_append, List.find?_cons, decide_eq_true he]
theorem siteX_no {l : List Site} {a : Int × Int} (h : ∀ i, i < l.length → addr (l.getD i default) ≠ a) : siteX l a = none := by
  unfold siteX
  exact List.find?_eq_none.2 fun i hi => by simpa using h i (List.mem_range.1 hi)
theorem siteX_some {l : List Site} {a : Int × Int} {k : Nat} (h : siteX l a = some k) : k < l.length ∧ addr (l.getD k default) = a := by
  unfold siteX at h
  exact ⟨List.mem_range.1 (List.mem_of_find?_eq_some h), by have := List.find?_some h; simpa using this⟩
theorem siteX_none {l : List Site} {a : Int × Int} : siteX l a = none ↔ ∀ i, i < l.length → addr (l.getD i default) ≠ a := by
  unfold siteX
  rw [List.find?_eq_none]
  exact ⟨fun h i hi => by simpa using h i (List.mem_range.2 hi), fun h i hi => by simpa using h i (List.mem_range.1 hi)⟩
theorem siteX_isSome (l : List Site) (a : Int × Int) : (siteX l a).isSome = (idxM l l.length a).isSome := by
  cases h : siteX l a with
  | none => rw [(idxM_none (n := l.length)).2 (siteX_none.1 h)]; rfl
  | some k =>
    obtain ⟨h1, h2⟩ := siteX_some h
    cases h3 : idxM l l.length a with
    | none => exact absurd h2 (idxM_none.1 h3 k h1)
    | some z => rfl
def sixI (o : Option Nat) : Int := match o with | some k => k | none => -1
theorem sixI_neg (o : Option Nat) : sixI o < 0 ↔ o = none := by cases o <;> simp [sixI] <;> omega
set_option maxRecDepth 100000 in
theorem SiteOf_s (l : List Site) (h : Hit) (hl : l.length ≤ 1000000) : Summ Tryz.prog GG 72 [arrF l, .agg (hitF h)] (iv (sixI (siteX l (hitA h)))) := by
  refine summW Tryz.func72 rfl rfl 34 rfl (by simp) (fun M0 => ?_)
  repeat (first
    | (apply s_a TY; exact rfl)
    | apply w_seq
    | apply w_region
    | apply s_nil
    | apply t_norm
    | apply w_block)
  apply w_loop (fun k : Nat => ⟨(Ab.upd (Ab.upd (Ab.upd (fun _ => .bot) 2 (.f (.pt [.sl l.length (sitesF l)] 0))) 3 (.f (.pt (hitF h) 0))) 5 (.f (iv (k : Nat)))), (fun _ => none), 0⟩) (fun k => k ≤ l.length ∧ ∀ i, i < k → addr (l.getD i default) ≠ hitA h) (fun k => l.length - k) 0 (⟨Nat.zero_le _, fun j h => absurd h (Nat.not_lt_zero j)⟩) (gh_le ⟨le_upd rfl trivial (le_upd rfl trivial (le_upd rfl trivial (le_nil _))), le_h0 _ _⟩)
  intro k ⟨hk, hz⟩
  by_cases hc : k < l.length
  · have hg := getD_at hc
    by_cases h1 : l[k].line = h.line
    · by_cases h2 : l[k].sensor = h.sensor
      · rw [siteX_at hc hz (by rw [hg]; unfold addr hitA; rw [h1, h2])]
        repeat (first
    | (apply s_a TY; exact rfl)
    | (apply s_t; exact rfl; (first | assumption | omega))
    | apply w_seq
    | apply w_region
    | (apply w_draw (id := 4) 18 rfl (by kernel_rfl))
    | apply s_nil
    | apply t_norm
    | apply t_ret
    | apply k_ret
    | apply w_block
    | apply w_ret
    | apply w_skip
    | (apply w_condT; exact rfl; exact rfl)
    | (apply s_c TY; exact rfl; (first | omega | exact ⟨by omega, by (first | with_reducible assumption | ((with_reducible apply sitesF_ne); omega) | assumption)⟩))
    | (apply s_l TY; exact rfl; (first | exact rfl | with_reducible assumption | ((with_reducible apply sitesF_f0); omega) | ((with_reducible apply sitesF_f1); omega) | ((with_reducible apply sitesF_f2); omega) | ((with_reducible apply sitesF_f3); omega) | ((with_reducible apply sitesF_f4); omega) | assumption)))
        exact lv_ret (ret1 rfl (res_tmp rfl))
      · repeat (first
    | (apply s_a TY; exact rfl)
    | (apply s_t; exact rfl; (first | assumption | omega))
    | (apply s_f; exact rfl; (first | assumption | omega))
    | apply w_seq
    | apply w_region
    | (apply w_draw (id := 4) 18 rfl (by kernel_rfl))
    | apply s_nil
    | apply t_norm
    | apply k_norm
    | apply w_block
    | apply w_skip
    | (apply w_condT; exact rfl; exact rfl)
    | (apply w_condF; exact rfl; exact rfl)
    | (apply s_c TY; exact rfl; (first | omega | exact ⟨by omega, by (first | with_reducible assumption | ((with_reducible apply sitesF_ne); omega) | assumption)⟩))
    | (apply s_l TY; exact rfl; (first | exact rfl | with_reducible assumption | ((with_reducible apply sitesF_f0); omega) | ((with_reducible apply sitesF_f1); omega) | ((with_reducible apply sitesF_f2); omega) | ((with_reducible apply sitesF_f3); omega) | ((with_reducible apply sitesF_f4); omega) | assumption)))
        exact ⟨k + 1, ⟨by omega, fun i hi => by
          by_cases e : i = k
          · subst e; rw [hg]; unfold addr hitA; exact fun e => h2 (Prod.mk.inj e).2
          · exact hz i (by omega)⟩, by omega, gh_le ⟨le_upd rfl trivial (le_upd rfl trivial (le_upd rfl trivial (le_nil _))), le_h0 _ _⟩⟩
    · repeat (first
    | (apply s_a TY; exact rfl)
    | (apply s_t; exact rfl; (first | assumption | omega))
    | (apply s_f; exact rfl; (first | assumption | omega))
    | apply w_seq
    | apply w_region
    | (apply w_draw (id := 4) 18 rfl (by kernel_rfl))
    | apply s_nil
    | apply t_norm
    | apply k_norm
    | apply w_block
    | apply w_skip
    | (apply w_condT; exact rfl; exact rfl)
    | (apply w_condF; exact rfl; exact rfl)
    | (apply s_s; exact rfl)
    | (apply s_c TY; exact rfl; (first | omega | exact ⟨by omega, by (first | with_reducible assumption | ((with_reducible apply sitesF_ne); omega) | assumption)⟩))
    | (apply s_l TY; exact rfl; (first | exact rfl | with_reducible assumption | ((with_reducible apply sitesF_f0); omega) | ((with_reducible apply sitesF_f1); omega) | ((with_reducible apply sitesF_f2); omega) | ((with_reducible apply sitesF_f3); omega) | ((with_reducible apply sitesF_f4); omega) | assumption)))
      exact ⟨k + 1, ⟨by omega, fun i hi => by
        by_cases e : i = k
        · subst e; rw [hg]; unfold addr hitA; exact fun e => h1 (Prod.mk.inj e).1
        · exact hz i (by omega)⟩, by omega, gh_le ⟨le_upd rfl trivial (le_upd rfl trivial (le_upd rfl trivial (le_nil _))), le_h0 _ _⟩⟩
  · rw [siteX_no fun i hi => hz i (by omega)]
    repeat (first
    | (apply s_a TY; exact rfl)
    | (apply s_f; exact rfl; (first | assumption | omega))
    | apply w_seq
    | apply w_region
    | apply s_nil
    | apply t_norm
    | apply t_exit
    | apply k_hit
    | apply w_exit
    | apply w_ret
    | (apply w_condF; exact rfl; exact rfl))
    exact lv_ret (ret1 rfl (res_tmp rfl))
set_option maxRecDepth 100000 in
theorem isBefore_s (a b : Hit) : Summ Tryz.prog GG 109 [.agg (hitF a), .agg (hitF b)] (bv (decide (before a b))) := by
  by_cases h1 : a.tm = b.tm
  · by_cases h2 : a.line = b.line
    · by_cases h3 : a.sensor < b.sensor
      · rw [show decide (before a b) = true by simp; unfold before; omega]
        refine summW Tryz.func109 rfl rfl 30 rfl (by simp) (fun M0 => ?_)
        repeat (first
    | (apply s_a TY; exact rfl)
    | (apply s_t; exact rfl; (first | assumption | omega))
    | apply w_seq
    | apply w_region
    | apply s_nil
    | apply t_norm
    | apply w_ret
    | apply w_skip
    | (apply w_condF; exact rfl; exact rfl))
        exact lv_ret (ret1 rfl (res_tmp rfl))
      · rw [show decide (before a b) = false by simp; unfold before; omega]
        refine summW Tryz.func109 rfl rfl 30 rfl (by simp) (fun M0 => ?_)
        repeat (first
    | (apply s_a TY; exact rfl)
    | (apply s_t; exact rfl; (first | assumption | omega))
    | (apply s_f; exact rfl; (first | assumption | omega))
    | apply w_seq
    | apply w_region
    | apply s_nil
    | apply t_norm
    | apply w_ret
    | apply w_skip
    | (apply w_condF; exact rfl; exact rfl))
        exact lv_ret (ret1 rfl (res_tmp rfl))
    · by_cases h3 : a.line < b.line
      · rw [show decide (before a b) = true by simp; unfold before; omega]
        refine summW Tryz.func109 rfl rfl 30 rfl (by simp) (fun M0 => ?_)
        repeat (first
    | (apply s_a TY; exact rfl)
    | (apply s_t; exact rfl; (first | assumption | omega))
    | (apply s_f; exact rfl; (first | assumption | omega))
    | apply w_seq
    | apply w_region
    | apply s_nil
    | apply t_norm
    | apply t_ret
    | apply w_ret
    | apply w_skip
    | (apply w_condT; exact rfl; exact rfl)
    | (apply w_condF; exact rfl; exact rfl))
        exact lv_ret (ret1 rfl (res_tmp rfl))
      · rw [show decide (before a b) = false by simp; unfold before; omega]
        refine summW Tryz.func109 rfl rfl 30 rfl (by simp) (fun M0 => ?_)
        repeat (first
    | (apply s_a TY; exact rfl)
    | (apply s_t; exact rfl; (first | assumption | omega))
    | (apply s_f; exact rfl; (first | assumption | omega))
    | apply w_seq
    | apply w_region
    | apply s_nil
    | apply t_norm
    | apply t_ret
    | apply w_ret
    | apply w_skip
    | (apply w_condT; exact rfl; exact rfl)
    | (apply w_condF; exact rfl; exact rfl))
        exact lv_ret (ret1 rfl (res_tmp rfl))
  · by_cases h3 : a.tm < b.tm
    · rw [show decide (before a b) = true by simp; unfold before; omega]
      refine summW Tryz.func109 rfl rfl 30 rfl (by simp) (fun M0 => ?_)
      repeat (first
    | (apply s_a TY; exact rfl)
    | (apply s_t; exact rfl; (first | assumption | omega))
    | (apply s_f; exact rfl; (first | assumption | omega))
    | apply w_seq
    | apply w_region
    | apply s_nil
    | apply t_norm
    | apply t_ret
    | apply w_ret
    | (apply w_condT; exact rfl; exact rfl))
      exact lv_ret (ret1 rfl (res_tmp rfl))
    · rw [show decide (before a b) = false by simp; unfold before; omega]
      refine summW Tryz.func109 rfl rfl 30 rfl (by simp) (fun M0 => ?_)
      repeat (first
    | (apply s_a TY; exact rfl)
    | (apply s_f; exact rfl; (first | assumption | omega))
    | apply w_seq
    | apply w_region
    | apply s_nil
    | apply t_norm
    | apply t_ret
    | apply w_ret
    | (apply w_condT; exact rfl; exact rfl))
      exact lv_ret (ret1 rfl (res_tmp rfl))
theorem isBefore_T (a b : Hit) (h : before a b) : Summ Tryz.prog GG 109 [.agg (hitF a), .agg (hitF b)] (.v (.bool true)) := by
  have := isBefore_s a b
  rwa [show decide (before a b) = true by simpa using h] at this
theorem isBefore_F (a b : Hit) (h : ¬ before a b) : Summ Tryz.prog GG 109 [.agg (hitF a), .agg (hitF b)] (.v (.bool false)) := by
  have := isBefore_s a b
  rwa [show decide (before a b) = false by simpa using h] at this
set_option maxRecDepth 100000 in
set_option maxHeartbeats 1600000 in
theorem rCheckHits_s (l : List Site) (h : List Hit) (hl : l.length ≤ 1000000) (hh : h.length ≤ 1000000) : Summ Tryz.prog GG 63 [arrF l, .sl h.length (hitsF h)] (.tup [iv (hitsChk l h).1, iv (hitsChk l h).2]) := by
  by_cases h40 : 40 < h.length
  · rw [show hitsChk l h = (0, 8) by unfold hitsChk; rw [if_pos h40]]
    refine summW Tryz.func63 rfl rfl 48 rfl (by simp) (fun M0 => ?_)
    repeat (first
    | (apply s_a TY; exact rfl)
    | (apply s_t; exact rfl; (first | assumption | omega))
    | apply w_seq
    | apply w_region
    | apply s_nil
    | apply t_norm
    | apply t_ret
    | apply w_ret
    | (apply w_condT; exact rfl; exact rfl))
    exact lv_ret (ret2 rfl (res_tmp rfl) (res_tmp rfl))
  refine summW Tryz.func63 rfl rfl 48 rfl (by simp) (fun M0 => ?_)
  repeat (first
    | (apply s_a TY; exact rfl)
    | (apply s_f; exact rfl; (first | assumption | omega))
    | apply w_seq
    | apply w_region
    | apply s_nil
    | apply t_norm
    | apply w_block
    | apply w_skip
    | (apply w_condF; exact rfl; exact rfl))
  apply w_loop (fun k : Nat => ⟨(Ab.upd (Ab.upd (Ab.upd (fun _ => .bot) 1 (.f (.sl h.length (hitsF h)))) 2 (.f (.pt [.sl l.length (sitesF l)] 0))) 6 (.f (iv (k : Nat)))), (fun _ => none), 0⟩) (fun k => k ≤ h.length ∧ ∀ i, i < k → hitE l h i = 0) (fun k => h.length - k) 0 (⟨Nat.zero_le _, fun j h => absurd h (Nat.not_lt_zero j)⟩) (gh_le ⟨le_upd rfl trivial (le_upd rfl trivial (le_upd rfl trivial (le_nil _))), le_h0 _ _⟩)
  intro k ⟨hk, hz⟩
  by_cases hc : k < h.length
  · have hg := getD_at hc
    have hg1 : h.getD (k - 1) default = h[k - 1] := getD_at (by omega)
    by_cases ht : 0 ≤ h[k].tm ∧ h[k].tm ≤ 1000000000000
    · by_cases hs : siteX l (hitA h[k]) ≠ none
      · by_cases h0 : k = 0
        · have he : hitE l h k = 0 := by unfold hitE siteM; rw [hg]; rw [show withinB h[k].tm 0 1000000000000 = true by simp [withinB]; omega, ← siteX_isSome]; rw [Option.isSome_iff_ne_none.2 hs]; rw [decide_eq_true h0]; rfl
          have hsx : ¬ sixI (siteX l (hitA h[k])) < 0 := fun e => hs ((sixI_neg _).1 e)
          repeat (first
    | (apply s_a TY; exact rfl)
    | (apply s_t; exact rfl; (first | assumption | omega))
    | (apply s_f; exact rfl; (first | assumption | omega))
    | apply w_seq
    | apply w_region
    | (apply w_draw (id := 8) 5 rfl (by kernel_rfl))
    | (apply w_draw (id := 10) 12 rfl (by kernel_rfl))
    | apply s_nil
    | apply t_norm
    | apply k_norm
    | apply w_block
    | apply w_skip
    | (apply w_condT; exact rfl; exact rfl)
    | (apply w_condF; exact rfl; exact rfl)
    | (apply s_k1 (bIsTick_T _); exact rfl; (first | assumption | omega | decide))
    | (apply s_k1 (SiteOf_s _ _); exact rfl; (first | assumption | omega | decide))
    | (apply s_s; exact rfl)
    | (apply s_c TY; exact rfl; (first | omega | exact ⟨by omega, by (first | with_reducible assumption | ((with_reducible apply hitsF_ne); omega) | assumption)⟩))
    | (apply s_l TY; exact rfl; (first | exact rfl | with_reducible assumption | ((with_reducible apply hitsF_f0); omega) | ((with_reducible apply hitsF_f1); omega) | ((with_reducible apply hitsF_f2); omega) | assumption))
    | (apply s_m TY; exact rfl; (first | with_reducible assumption | ((with_reducible apply hitsF_sub); omega) | exact rfl); exact rfl))
          exact ⟨k + 1, ⟨by omega, fun i hi => by
              by_cases e : i = k
              · subst e; exact he
              · exact hz i (by omega)⟩, by omega, gh_le ⟨le_upd rfl trivial (le_upd rfl trivial (le_upd rfl trivial (le_nil _))), le_h0 _ _⟩⟩
        · by_cases hb : before h[k - 1] h[k]
          · have he : hitE l h k = 0 := by unfold hitE siteM; rw [hg, hg1]; rw [show withinB h[k].tm 0 1000000000000 = true by simp [withinB]; omega, ← siteX_isSome]; rw [Option.isSome_iff_ne_none.2 hs]; rw [decide_eq_false h0, decide_eq_true hb]; rfl
            have hsx : ¬ sixI (siteX l (hitA h[k])) < 0 := fun e => hs ((sixI_neg _).1 e)
            have hkx : ((k : Int) - 1).toNat = k - 1 := by omega
            have hbx : before (h[((k : Int) - 1).toNat]'(by omega)) h[k] := by simp only [hkx]; exact hb
            repeat (first
    | (apply s_a TY; exact rfl)
    | (apply s_t; exact rfl; (first | assumption | omega))
    | (apply s_f; exact rfl; (first | assumption | omega))
    | apply w_seq
    | apply w_region
    | (apply w_draw (id := 8) 5 rfl (by kernel_rfl))
    | (apply w_draw (id := 10) 12 rfl (by kernel_rfl))
    | apply s_nil
    | apply t_norm
    | apply k_norm
    | apply w_block
    | apply w_skip
    | (apply w_condT; exact rfl; exact rfl)
    | (apply w_condF; exact rfl; exact rfl)
    | (apply s_k1 (bIsTick_T _); exact rfl; (first | assumption | omega | decide))
    | (apply s_k1 (SiteOf_s _ _); exact rfl; (first | assumption | omega | decide))
    | (apply s_k1 (isBefore_T _ _); exact rfl; (first | assumption | omega | decide))
    | (apply s_c TY; exact rfl; (first | omega | exact ⟨by omega, by (first | with_reducible assumption | ((with_reducible apply hitsF_ne); omega) | assumption)⟩))
    | (apply s_z TY; exact rfl; (first | omega | exact ⟨by omega, by (first | with_reducible assumption | ((with_reducible apply hitsF_ne); omega) | assumption)⟩))
    | (apply s_l TY; exact rfl; (first | exact rfl | with_reducible assumption | ((with_reducible apply hitsF_f0); omega) | ((with_reducible apply hitsF_f1); omega) | ((with_reducible apply hitsF_f2); omega) | assumption))
    | (apply s_m TY; exact rfl; (first | with_reducible assumption | ((with_reducible apply hitsF_sub); omega) | exact rfl); exact rfl))
            exact ⟨k + 1, ⟨by omega, fun i hi => by
                by_cases e : i = k
                · subst e; exact he
                · exact hz i (by omega)⟩, by omega, gh_le ⟨le_upd rfl trivial (le_upd rfl trivial (le_upd rfl trivial (le_nil _))), le_h0 _ _⟩⟩
          · have he : hitE l h k = 9 := by unfold hitE siteM; rw [hg, hg1]; rw [show withinB h[k].tm 0 1000000000000 = true by simp [withinB]; omega, ← siteX_isSome]; rw [Option.isSome_iff_ne_none.2 hs]; rw [decide_eq_false h0, decide_eq_false hb]; rfl
            have hsx : ¬ sixI (siteX l (hitA h[k])) < 0 := fun e => hs ((sixI_neg _).1 e)
            have hkx : ((k : Int) - 1).toNat = k - 1 := by omega
            have hbx : ¬ before (h[((k : Int) - 1).toNat]'(by omega)) h[k] := by simp only [hkx]; exact hb
            rw [show hitsChk l h = (k, 9) by unfold hitsChk; rw [if_neg h40, eachE_at hc hz (by rw [he]; decide), he]]
            repeat (first
    | (apply s_a TY; exact rfl)
    | (apply s_t; exact rfl; (first | assumption | omega))
    | (apply s_f; exact rfl; (first | assumption | omega))
    | apply w_seq
    | apply w_region
    | (apply w_draw (id := 8) 5 rfl (by kernel_rfl))
    | (apply w_draw (id := 10) 12 rfl (by kernel_rfl))
    | apply s_nil
    | apply t_norm
    | apply t_ret
    | apply k_ret
    | apply w_block
    | apply w_ret
    | apply w_skip
    | (apply w_condT; exact rfl; exact rfl)
    | (apply w_condF; exact rfl; exact rfl)
    | (apply s_k1 (bIsTick_T _); exact rfl; (first | assumption | omega | decide))
    | (apply s_k1 (SiteOf_s _ _); exact rfl; (first | assumption | omega | decide))
    | (apply s_k1 (isBefore_F _ _); exact rfl; (first | assumption | omega | decide))
    | (apply s_c TY; exact rfl; (first | omega | exact ⟨by omega, by (first | with_reducible assumption | ((with_reducible apply hitsF_ne); omega) | assumption)⟩))
    | (apply s_z TY; exact rfl; (first | omega | exact ⟨by omega, by (first | with_reducible assumption | ((with_reducible apply hitsF_ne); omega) | assumption)⟩))
    | (apply s_l TY; exact rfl; (first | exact rfl | with_reducible assumption | ((with_reducible apply hitsF_f0); omega) | ((with_reducible apply hitsF_f1); omega) | ((with_reducible apply hitsF_f2); omega) | assumption))
    | (apply s_m TY; exact rfl; (first | with_reducible assumption | ((with_reducible apply hitsF_sub); omega) | exact rfl); exact rfl))
            exact lv_ret (ret2 rfl (res_tmp rfl) (res_tmp rfl))
      · have hs : siteX l (hitA h[k]) = none := Classical.byContradiction hs
        have he : hitE l h k = 6 := by unfold hitE siteM; rw [hg]; rw [show withinB h[k].tm 0 1000000000000 = true by simp [withinB]; omega, ← siteX_isSome]; rw [hs]; rfl
        have hsx : sixI (siteX l (hitA h[k])) < 0 := (sixI_neg _).2 hs
        rw [show hitsChk l h = (k, 6) by unfold hitsChk; rw [if_neg h40, eachE_at hc hz (by rw [he]; decide), he]]
        repeat (first
    | (apply s_a TY; exact rfl)
    | (apply s_t; exact rfl; (first | assumption | omega))
    | apply w_seq
    | apply w_region
    | (apply w_draw (id := 8) 5 rfl (by kernel_rfl))
    | apply s_nil
    | apply t_norm
    | apply t_ret
    | apply k_ret
    | apply w_block
    | apply w_ret
    | apply w_skip
    | (apply w_condT; exact rfl; exact rfl)
    | (apply w_condF; exact rfl; exact rfl)
    | (apply s_k1 (bIsTick_T _); exact rfl; (first | assumption | omega | decide))
    | (apply s_k1 (SiteOf_s _ _); exact rfl; (first | assumption | omega | decide))
    | (apply s_c TY; exact rfl; (first | omega | exact ⟨by omega, by (first | with_reducible assumption | ((with_reducible apply hitsF_ne); omega) | assumption)⟩))
    | (apply s_l TY; exact rfl; (first | exact rfl | with_reducible assumption | ((with_reducible apply hitsF_f0); omega) | ((with_reducible apply hitsF_f1); omega) | ((with_reducible apply hitsF_f2); omega) | assumption))
    | (apply s_m TY; exact rfl; (first | with_reducible assumption | ((with_reducible apply hitsF_sub); omega) | exact rfl); exact rfl))
        exact lv_ret (ret2 rfl (res_tmp rfl) (res_tmp rfl))
    · have he : hitE l h k = 2 := by unfold hitE siteM; rw [hg]; rw [show withinB h[k].tm 0 1000000000000 = false by simp [withinB]; omega]; exact firstE_hd (by decide)
      rw [show hitsChk l h = (k, 2) by unfold hitsChk; rw [if_neg h40, eachE_at hc hz (by rw [he]; decide), he]]
      repeat (first
    | (apply s_a TY; exact rfl)
    | (apply s_t; exact rfl; (first | assumption | omega))
    | apply w_seq
    | apply w_region
    | apply s_nil
    | apply t_norm
    | apply t_ret
    | apply k_ret
    | apply w_block
    | apply w_ret
    | apply w_skip
    | (apply w_condT; exact rfl; exact rfl)
    | (apply s_k1 (bIsTick_F _); exact rfl; (first | assumption | omega | decide))
    | (apply s_c TY; exact rfl; (first | omega | exact ⟨by omega, by (first | with_reducible assumption | ((with_reducible apply hitsF_ne); omega) | assumption)⟩))
    | (apply s_l TY; exact rfl; (first | exact rfl | with_reducible assumption | ((with_reducible apply hitsF_f0); omega) | ((with_reducible apply hitsF_f1); omega) | ((with_reducible apply hitsF_f2); omega) | assumption)))
      exact lv_ret (ret2 rfl (res_tmp rfl) (res_tmp rfl))
  · rw [show hitsChk l h = (0, 0) by unfold hitsChk; rw [if_neg h40, eachE_ok (fun i hi => hz i (by omega))]]
    repeat (first
    | (apply s_a TY; exact rfl)
    | (apply s_f; exact rfl; (first | assumption | omega))
    | apply w_seq
    | apply w_region
    | apply s_nil
    | apply t_norm
    | apply t_exit
    | apply k_hit
    | apply w_exit
    | apply w_ret
    | (apply w_condF; exact rfl; exact rfl))
    exact lv_ret (ret2 rfl (res_tmp rfl) (res_tmp rfl))
theorem HitsErr_s (l : List Site) (h : List Hit) (hl : l.length ≤ 1000000) (hh : h.length ≤ 1000000) : Summ Tryz.prog GG 19 [arrF l, .sl h.length (hitsF h)] (iv (hitsChk l h).2) := by
  refine summW Tryz.func19 rfl rfl 14 rfl (by simp) (fun M0 => ?_)
  repeat (first
    | (apply s_a TY; exact rfl)
    | apply w_seq
    | apply w_region
    | apply s_nil
    | apply t_norm
    | apply w_ret
    | (apply s_k2 (rCheckHits_s _ _); exact rfl; (first | assumption | omega | decide); (first | assumption | omega | decide)))
  exact lv_ret (ret1 rfl (res_tmp rfl))
end Go.Proofs.YtdmdpkoapllkkaaGreat
namespace Go.Proofs.YtdmdpkoapllkkaaGreat
open Go Go.RowKit Go.Proofs Go.Shelf Go.Ab
set_option maxRecDepth 100000 in
set_option maxHeartbeats 1600000 in
theorem rCheckArray_s (l : List Site) (hl : l.length ≤ 1000000) : Summ Tryz.prog GG 106 [arrF l] (.tup [iv (arrChk l).1, iv (arrChk l).2]) := by
  by_cases hn : l.length = 0
  · rw [show arrChk l = (0, 10) by unfold arrChk; rw [if_pos hn]]
    refine summW Tryz.func106 rfl rfl 82 rfl (by simp) (fun M0 => ?_)
    repeat (first
    | (apply s_a TY; exact rfl)
    | (apply s_t; exact rfl; (first | assumption | omega))
    | apply w_seq
    | apply w_region
    | apply s_nil
    | apply t_norm
    | apply t_ret
    | apply w_ret
    | (apply w_condT; exact rfl; exact rfl))
    exact lv_ret (ret2 rfl (res_tmp rfl) (res_tmp rfl))
  by_cases h30 : 30 < l.length
  · rw [show arrChk l = (0, 8) by unfold arrChk; rw [if_neg hn, if_pos h30]]
    refine summW Tryz.func106 rfl rfl 82 rfl (by simp) (fun M0 => ?_)
    repeat (first
    | (apply s_a TY; exact rfl)
    | (apply s_t; exact rfl; (first | assumption | omega))
    | (apply s_f; exact rfl; (first | assumption | omega))
    | apply w_seq
    | apply w_region
    | apply s_nil
    | apply t_norm
    | apply t_ret
    | apply w_ret
    | apply w_skip
    | (apply w_condT; exact rfl; exact rfl)
    | (apply w_condF; exact rfl; exact rfl))
    exact lv_ret (ret2 rfl (res_tmp rfl) (res_tmp rfl))
  refine summW Tryz.func106 rfl rfl 82 rfl (by simp) (fun M0 => ?_)
  repeat (first
    | (apply s_a TY; exact rfl)
    | (apply s_f; exact rfl; (first | assumption | omega))
    | apply w_seq
    | apply w_region
    | apply s_nil
    | apply t_norm
    | apply w_block
    | apply w_skip
    | (apply w_condF; exact rfl; exact rfl))
  apply w_loop (fun k : Nat => ⟨(Ab.upd (Ab.upd (fun _ => .bot) 1 (.f (.pt [.sl l.length (sitesF l)] 0))) 4 (.f (iv (k : Nat)))), (fun _ => none), 0⟩) (fun k => k ≤ l.length ∧ ∀ i, i < k → siteE l i = 0) (fun k => l.length - k) 0 (⟨Nat.zero_le _, fun j h => absurd h (Nat.not_lt_zero j)⟩) (gh_le ⟨le_upd rfl trivial (le_upd rfl trivial (le_nil _)), le_h0 _ _⟩)
  intro k ⟨hk, hz⟩
  by_cases hc : k < l.length
  · have hg := getD_at hc
    by_cases hp1 : 1 ≤ l[k].line ∧ l[k].line ≤ 100
    · by_cases hp2 : 1 ≤ l[k].sensor ∧ l[k].sensor ≤ 100
      · by_cases hp3 : -100000 ≤ l[k].x ∧ l[k].x ≤ 100000
        · by_cases hp4 : -100000 ≤ l[k].y ∧ l[k].y ≤ 100000
          · by_cases hp5 : -100000 ≤ l[k].z ∧ l[k].z ≤ 100000
            · have hR : siteRight l[k] := by unfold siteRight; exact ⟨hp1, hp2, hp3, hp4, hp5⟩
              repeat (first
    | (apply s_a TY; exact rfl)
    | (apply s_t; exact rfl; (first | assumption | omega))
    | apply w_seq
    | apply w_region
    | apply s_nil
    | apply t_norm
    | apply w_block
    | apply w_skip
    | (apply w_condT; exact rfl; exact rfl)
    | (apply w_condF; exact rfl; exact rfl)
    | (apply s_k1 (rIsNumber_T _); exact rfl; (first | assumption | omega | decide))
    | (apply s_k1 (rIsPlace_T _); exact rfl; (first | assumption | omega | decide))
    | (apply s_c TY; exact rfl; (first | omega | exact ⟨by omega, by (first | with_reducible assumption | ((with_reducible apply sitesF_ne); omega) | assumption)⟩))
    | (apply s_m TY; exact rfl; (first | with_reducible assumption | ((with_reducible apply sitesF_sub); omega) | exact rfl); exact rfl)
    | (apply s_alloc TY; exact rfl; exact rfl; exact rfl)
    | (apply s_store TY; exact rfl; exact rfl; exact rfl; exact rfl; exact rfl; exact rfl))
              apply w_loop (fun j : Nat => ⟨(Ab.upd (Ab.upd (Ab.upd (Ab.upd (fun _ => .bot) 1 (.f (.pt [.sl l.length (sitesF l)] 0))) 4 (.f (iv (k : Nat)))) 5 (.f (.pt (siteF l[k]) 0))) 6 (.f (iv (j : Nat)))), (fun _ => none), 0⟩) (fun j => j ≤ k ∧ ∀ i, i < j → addr (l.getD i default) ≠ addr l[k]) (fun j => k - j) 0 (⟨Nat.zero_le _, fun j h => absurd h (Nat.not_lt_zero j)⟩) (gh_trans (gh_box 0 (cs := siteF l[k]) rfl rfl) (gh_le ⟨le_upd rfl trivial (le_upd rfl trivial (le_upd rfl trivial (le_upd rfl trivial (le_nil _)))), le_h0 _ _⟩))
              intro j ⟨hj, hy⟩
              by_cases hjk : j < k
              · have hgj : l.getD j default = l[j] := getD_at (by omega)
                by_cases h1 : l[j].line = l[k].line
                · by_cases h2 : l[j].sensor = l[k].sensor
                  · have he : siteE l k = 23 := by unfold siteE; rw [hg, if_neg (by simpa using hR), if_pos (by rw [Option.isSome_iff_ne_none]; exact fun e => idxM_none.1 e j hjk (by rw [hgj]; unfold addr; rw [h1, h2]))]
                    rw [show arrChk l = (k, 23) by unfold arrChk; rw [if_neg hn, if_neg h30, eachE_at hc hz (by rw [he]; decide), he]]
                    repeat (first
    | (apply s_a TY; exact rfl)
    | (apply s_t; exact rfl; (first | assumption | omega))
    | apply w_seq
    | apply w_region
    | (apply w_draw (id := 14) 18 rfl (by kernel_rfl))
    | apply s_nil
    | apply t_norm
    | apply t_ret
    | apply k_ret
    | apply w_block
    | apply w_ret
    | apply w_skip
    | (apply w_condT; exact rfl; exact rfl)
    | (apply s_c TY; exact rfl; (first | omega | exact ⟨by omega, by (first | with_reducible assumption | ((with_reducible apply sitesF_ne); omega) | assumption)⟩))
    | (apply s_l TY; exact rfl; (first | exact rfl | with_reducible assumption | ((with_reducible apply sitesF_f0); omega) | ((with_reducible apply sitesF_f1); omega) | ((with_reducible apply sitesF_f2); omega) | ((with_reducible apply sitesF_f3); omega) | ((with_reducible apply sitesF_f4); omega) | assumption)))
                    exact lv_ret (ret2 rfl (res_tmp rfl) (res_tmp rfl))
                  · repeat (first
    | (apply s_a TY; exact rfl)
    | (apply s_t; exact rfl; (first | assumption | omega))
    | (apply s_f; exact rfl; (first | assumption | omega))
    | apply w_seq
    | apply w_region
    | (apply w_draw (id := 14) 18 rfl (by kernel_rfl))
    | apply s_nil
    | apply t_norm
    | apply k_norm
    | apply w_block
    | apply w_skip
    | (apply w_condT; exact rfl; exact rfl)
    | (apply w_condF; exact rfl; exact rfl)
    | (apply s_c TY; exact rfl; (first | omega | exact ⟨by omega, by (first | with_reducible assumption | ((with_reducible apply sitesF_ne); omega) | assumption)⟩))
    | (apply s_l TY; exact rfl; (first | exact rfl | with_reducible assumption | ((with_reducible apply sitesF_f0); omega) | ((with_reducible apply sitesF_f1); omega) | ((with_reducible apply sitesF_f2); omega) | ((with_reducible apply sitesF_f3); omega) | ((with_reducible apply sitesF_f4); omega) | assumption)))
                    exact ⟨j + 1, ⟨by omega, fun i hi => by
                      by_cases e : i = j
                      · subst e; rw [hgj]; unfold addr; exact fun e => h2 (Prod.mk.inj e).2
                      · exact hy i (by omega)⟩, by omega, gh_le ⟨le_upd rfl trivial (le_upd rfl trivial (le_upd rfl trivial (le_upd rfl trivial (le_nil _)))), le_h0 _ _⟩⟩
                · repeat (first
    | (apply s_a TY; exact rfl)
    | (apply s_t; exact rfl; (first | assumption | omega))
    | (apply s_f; exact rfl; (first | assumption | omega))
    | apply w_seq
    | apply w_region
    | (apply w_draw (id := 14) 18 rfl (by kernel_rfl))
    | apply s_nil
    | apply t_norm
    | apply k_norm
    | apply w_block
    | apply w_skip
    | (apply w_condT; exact rfl; exact rfl)
    | (apply w_condF; exact rfl; exact rfl)
    | (apply s_s; exact rfl)
    | (apply s_c TY; exact rfl; (first | omega | exact ⟨by omega, by (first | with_reducible assumption | ((with_reducible apply sitesF_ne); omega) | assumption)⟩))
    | (apply s_l TY; exact rfl; (first | exact rfl | with_reducible assumption | ((with_reducible apply sitesF_f0); omega) | ((with_reducible apply sitesF_f1); omega) | ((with_reducible apply sitesF_f2); omega) | ((with_reducible apply sitesF_f3); omega) | ((with_reducible apply sitesF_f4); omega) | assumption)))
                  exact ⟨j + 1, ⟨by omega, fun i hi => by
                    by_cases e : i = j
                    · subst e; rw [hgj]; unfold addr; exact fun e => h1 (Prod.mk.inj e).1
                    · exact hy i (by omega)⟩, by omega, gh_le ⟨le_upd rfl trivial (le_upd rfl trivial (le_upd rfl trivial (le_upd rfl trivial (le_nil _)))), le_h0 _ _⟩⟩
              · have hjk2 : j = k := by omega
                subst hjk2
                have he : siteE l j = 0 := by unfold siteE; rw [hg, if_neg (by simpa using hR), if_neg (by rw [(idxM_none (n := j)).2 hy]; simp)]
                repeat (first
    | (apply s_a TY; exact rfl)
    | (apply s_f; exact rfl; (first | assumption | omega))
    | apply w_seq
    | apply w_region
    | apply s_nil
    | apply t_norm
    | apply t_exit
    | apply k_hit
    | apply k_norm
    | apply w_exit
    | (apply w_condF; exact rfl; exact rfl)
    | (apply s_c TY; exact rfl; (first | omega | exact ⟨by omega, by (first | with_reducible assumption | ((with_reducible apply sitesF_ne); omega) | assumption)⟩)))
                exact ⟨j + 1, ⟨by omega, fun i hi => by
                  by_cases e : i = j
                  · subst e; exact he
                  · exact hz i (by omega)⟩, by omega, gh_le ⟨le_upd rfl trivial (le_upd rfl trivial (le_nil _)), le_h0 _ _⟩⟩
            · have hR : ¬ siteRight l[k] := by unfold siteRight; exact fun h => absurd h.2.2.2.2 hp5
              have he : siteE l k = 2 := by unfold siteE; rw [hg, if_pos hR]
              rw [show arrChk l = (k, 2) by unfold arrChk; rw [if_neg hn, if_neg h30, eachE_at hc hz (by rw [he]; decide), he]]
              repeat (first
    | (apply s_a TY; exact rfl)
    | (apply s_t; exact rfl; (first | assumption | omega))
    | apply w_seq
    | apply w_region
    | apply s_nil
    | apply t_norm
    | apply t_ret
    | apply k_ret
    | apply w_block
    | apply w_ret
    | apply w_skip
    | (apply w_condT; exact rfl; exact rfl)
    | (apply s_k1 (rIsNumber_T _); exact rfl; (first | assumption | omega | decide))
    | (apply s_k1 (rIsPlace_T _); exact rfl; (first | assumption | omega | decide))
    | (apply s_k1 (rIsPlace_F _); exact rfl; (first | assumption | omega | decide))
    | (apply s_c TY; exact rfl; (first | omega | exact ⟨by omega, by (first | with_reducible assumption | ((with_reducible apply sitesF_ne); omega) | assumption)⟩))
    | (apply s_m TY; exact rfl; (first | with_reducible assumption | ((with_reducible apply sitesF_sub); omega) | exact rfl); exact rfl)
    | (apply s_alloc TY; exact rfl; exact rfl; exact rfl)
    | (apply s_store TY; exact rfl; exact rfl; exact rfl; exact rfl; exact rfl; exact rfl))
              exact lv_ret (ret2 rfl (res_tmp rfl) (res_tmp rfl))
          · have hR : ¬ siteRight l[k] := by unfold siteRight; exact fun h => absurd h.2.2.2.1 hp4
            have he : siteE l k = 2 := by unfold siteE; rw [hg, if_pos hR]
            rw [show arrChk l = (k, 2) by unfold arrChk; rw [if_neg hn, if_neg h30, eachE_at hc hz (by rw [he]; decide), he]]
            repeat (first
    | (apply s_a TY; exact rfl)
    | (apply s_t; exact rfl; (first | assumption | omega))
    | apply w_seq
    | apply w_region
    | apply s_nil
    | apply t_norm
    | apply t_ret
    | apply k_ret
    | apply w_block
    | apply w_ret
    | apply w_skip
    | (apply w_condT; exact rfl; exact rfl)
    | (apply s_k1 (rIsNumber_T _); exact rfl; (first | assumption | omega | decide))
    | (apply s_k1 (rIsPlace_T _); exact rfl; (first | assumption | omega | decide))
    | (apply s_k1 (rIsPlace_F _); exact rfl; (first | assumption | omega | decide))
    | (apply s_s; exact rfl)
    | (apply s_c TY; exact rfl; (first | omega | exact ⟨by omega, by (first | with_reducible assumption | ((with_reducible apply sitesF_ne); omega) | assumption)⟩))
    | (apply s_m TY; exact rfl; (first | with_reducible assumption | ((with_reducible apply sitesF_sub); omega) | exact rfl); exact rfl)
    | (apply s_alloc TY; exact rfl; exact rfl; exact rfl)
    | (apply s_store TY; exact rfl; exact rfl; exact rfl; exact rfl; exact rfl; exact rfl))
            exact lv_ret (ret2 rfl (res_tmp rfl) (res_tmp rfl))
        · have hR : ¬ siteRight l[k] := by unfold siteRight; exact fun h => absurd h.2.2.1 hp3
          have he : siteE l k = 2 := by unfold siteE; rw [hg, if_pos hR]
          rw [show arrChk l = (k, 2) by unfold arrChk; rw [if_neg hn, if_neg h30, eachE_at hc hz (by rw [he]; decide), he]]
          repeat (first
    | (apply s_a TY; exact rfl)
    | (apply s_t; exact rfl; (first | assumption | omega))
    | apply w_seq
    | apply w_region
    | apply s_nil
    | apply t_norm
    | apply t_ret
    | apply k_ret
    | apply w_block
    | apply w_ret
    | apply w_skip
    | (apply w_condT; exact rfl; exact rfl)
    | (apply s_k1 (rIsNumber_T _); exact rfl; (first | assumption | omega | decide))
    | (apply s_k1 (rIsPlace_F _); exact rfl; (first | assumption | omega | decide))
    | (apply s_s; exact rfl)
    | (apply s_c TY; exact rfl; (first | omega | exact ⟨by omega, by (first | with_reducible assumption | ((with_reducible apply sitesF_ne); omega) | assumption)⟩))
    | (apply s_m TY; exact rfl; (first | with_reducible assumption | ((with_reducible apply sitesF_sub); omega) | exact rfl); exact rfl)
    | (apply s_alloc TY; exact rfl; exact rfl; exact rfl)
    | (apply s_store TY; exact rfl; exact rfl; exact rfl; exact rfl; exact rfl; exact rfl))
          exact lv_ret (ret2 rfl (res_tmp rfl) (res_tmp rfl))
      · have hR : ¬ siteRight l[k] := by unfold siteRight; exact fun h => absurd h.2.1 hp2
        have he : siteE l k = 2 := by unfold siteE; rw [hg, if_pos hR]
        rw [show arrChk l = (k, 2) by unfold arrChk; rw [if_neg hn, if_neg h30, eachE_at hc hz (by rw [he]; decide), he]]
        repeat (first
    | (apply s_a TY; exact rfl)
    | (apply s_t; exact rfl; (first | assumption | omega))
    | apply w_seq
    | apply w_region
    | apply s_nil
    | apply t_norm
    | apply t_ret
    | apply k_ret
    | apply w_block
    | apply w_ret
    | apply w_skip
    | (apply w_condT; exact rfl; exact rfl)
    | (apply s_k1 (rIsNumber_T _); exact rfl; (first | assumption | omega | decide))
    | (apply s_k1 (rIsNumber_F _); exact rfl; (first | assumption | omega | decide))
    | (apply s_s; exact rfl)
    | (apply s_c TY; exact rfl; (first | omega | exact ⟨by omega, by (first | with_reducible assumption | ((with_reducible apply sitesF_ne); omega) | assumption)⟩))
    | (apply s_m TY; exact rfl; (first | with_reducible assumption | ((with_reducible apply sitesF_sub); omega) | exact rfl); exact rfl)
    | (apply s_alloc TY; exact rfl; exact rfl; exact rfl)
    | (apply s_store TY; exact rfl; exact rfl; exact rfl; exact rfl; exact rfl; exact rfl))
        exact lv_ret (ret2 rfl (res_tmp rfl) (res_tmp rfl))
    · have hR : ¬ siteRight l[k] := by unfold siteRight; exact fun h => absurd h.1 hp1
      have he : siteE l k = 2 := by unfold siteE; rw [hg, if_pos hR]
      rw [show arrChk l = (k, 2) by unfold arrChk; rw [if_neg hn, if_neg h30, eachE_at hc hz (by rw [he]; decide), he]]
      repeat (first
    | (apply s_a TY; exact rfl)
    | (apply s_t; exact rfl; (first | assumption | omega))
    | apply w_seq
    | apply w_region
    | apply s_nil
    | apply t_norm
    | apply t_ret
    | apply k_ret
    | apply w_block
    | apply w_ret
    | apply w_skip
    | (apply w_condT; exact rfl; exact rfl)
    | (apply s_k1 (rIsNumber_F _); exact rfl; (first | assumption | omega | decide))
    | (apply s_s; exact rfl)
    | (apply s_c TY; exact rfl; (first | omega | exact ⟨by omega, by (first | with_reducible assumption | ((with_reducible apply sitesF_ne); omega) | assumption)⟩))
    | (apply s_m TY; exact rfl; (first | with_reducible assumption | ((with_reducible apply sitesF_sub); omega) | exact rfl); exact rfl)
    | (apply s_alloc TY; exact rfl; exact rfl; exact rfl)
    | (apply s_store TY; exact rfl; exact rfl; exact rfl; exact rfl; exact rfl; exact rfl))
      exact lv_ret (ret2 rfl (res_tmp rfl) (res_tmp rfl))
  · rw [show arrChk l = (0, 0) by unfold arrChk; rw [if_neg hn, if_neg h30, eachE_ok (fun i hi => hz i (by omega))]]
    repeat (first
    | (apply s_a TY; exact rfl)
    | (apply s_f; exact rfl; (first | assumption | omega))
    | apply w_seq
    | apply w_region
    | apply s_nil
    | apply t_norm
    | apply t_exit
    | apply k_hit
    | apply w_exit
    | apply w_ret
    | (apply w_condF; exact rfl; exact rfl))
    exact lv_ret (ret2 rfl (res_tmp rfl) (res_tmp rfl))
theorem ArrayErr_s (l : List Site) (hl : l.length ≤ 1000000) : Summ Tryz.prog GG 42 [arrF l] (iv (arrChk l).2) := by
  refine summW Tryz.func42 rfl rfl 11 rfl (by simp) (fun M0 => ?_)
  repeat (first
    | (apply s_a TY; exact rfl)
    | apply w_seq
    | apply w_region
    | apply s_nil
    | apply t_norm
    | apply w_ret
    | (apply s_k1 (rCheckArray_s _); exact rfl; (first | assumption | omega | decide)))
  exact lv_ret (ret1 rfl (res_tmp rfl))
def setErr (l : List Site) (s : Setup) (h : List Hit) : Int := if (arrChk l).2 ≠ 0 then (arrChk l).2 else if (setupChk s).2 ≠ 0 then (setupChk s).2 else (hitsChk l h).2
def ruledErr (l : List Site) (r : Rule) (h : List Hit) : Int := if (arrChk l).2 ≠ 0 then (arrChk l).2 else if ruleErr r ≠ 0 then ruleErr r else (hitsChk l h).2
set_option maxRecDepth 100000 in
theorem SetErr_s (l : List Site) (s : Setup) (h : List Hit) (hl : l.length ≤ 1000000) (hs : s.rules.length ≤ 1000000) (hh : h.length ≤ 1000000) : Summ Tryz.prog GG 30 [arrF l, setF s, .sl h.length (hitsF h)] (iv (setErr l s h)) := by
  unfold setErr
  by_cases h1 : (arrChk l).2 = 0
  · rw [if_neg (by simpa using h1)]
    by_cases h2 : (setupChk s).2 = 0
    · rw [if_neg (by simpa using h2)]
      refine summW Tryz.func30 rfl rfl 22 rfl (by simp) (fun M0 => ?_)
      repeat (first
    | (apply s_a TY; exact rfl)
    | (apply s_t; exact rfl; (first | assumption | omega))
    | apply w_seq
    | apply w_region
    | apply s_nil
    | apply t_norm
    | apply w_ret
    | apply w_skip
    | (apply w_condF; exact rfl; exact rfl)
    | (apply s_k2 (HitsErr_s _ _); exact rfl; (first | assumption | omega | decide); (first | assumption | omega | decide))
    | (apply s_k1 (ArrayErr_s _); exact rfl; (first | assumption | omega | decide))
    | (apply s_k1 (SetupErr_s _); exact rfl; (first | assumption | omega | decide)))
      exact lv_ret (ret1 rfl (res_tmp rfl))
    · rw [if_pos (by simpa using h2)]
      refine summW Tryz.func30 rfl rfl 22 rfl (by simp) (fun M0 => ?_)
      repeat (first
    | (apply s_a TY; exact rfl)
    | (apply s_t; exact rfl; (first | assumption | omega))
    | (apply s_f; exact rfl; (first | assumption | omega))
    | apply w_seq
    | apply w_region
    | apply s_nil
    | apply t_norm
    | apply t_ret
    | apply w_ret
    | apply w_skip
    | (apply w_condT; exact rfl; exact rfl)
    | (apply w_condF; exact rfl; exact rfl)
    | (apply s_k1 (ArrayErr_s _); exact rfl; (first | assumption | omega | decide))
    | (apply s_k1 (SetupErr_s _); exact rfl; (first | assumption | omega | decide)))
      exact lv_ret (ret1 rfl (res_tmp rfl))
  · rw [if_pos (by simpa using h1)]
    refine summW Tryz.func30 rfl rfl 22 rfl (by simp) (fun M0 => ?_)
    repeat (first
    | (apply s_a TY; exact rfl)
    | (apply s_f; exact rfl; (first | assumption | omega))
    | apply w_seq
    | apply w_region
    | apply s_nil
    | apply t_norm
    | apply t_ret
    | apply w_ret
    | (apply w_condT; exact rfl; exact rfl)
    | (apply s_k1 (ArrayErr_s _); exact rfl; (first | assumption | omega | decide)))
    exact lv_ret (ret1 rfl (res_tmp rfl))
def readoutV (l : List Site) (s : Setup) : FV := .agg ([.sl l.length (sitesF l), .mp (mapS l l.length)] ++ setL s)
set_option maxRecDepth 100000 in
set_option maxHeartbeats 1600000 in
theorem openSetup_ok (l : List Site) (s : Setup) (hits : List Hit) (hl : l.length ≤ 1000000) (hs : s.rules.length ≤ 1000000) (hh : hits.length ≤ 1000000) (h : setErr l s hits = 0) : Summ Tryz.prog GG 76 [arrF l, setF s, .sl hits.length (hitsF hits)] (.tup [readoutV l s, iv 0]) := by
  unfold setErr at h
  have h1 : (arrChk l).2 = 0 := Classical.byContradiction fun h1 => by rw [if_pos h1] at h; exact h1 h
  rw [if_neg (by simpa using h1)] at h
  have h2 : (setupChk s).2 = 0 := Classical.byContradiction fun h2 => by rw [if_pos h2] at h; exact h2 h
  rw [if_neg (by simpa using h2)] at h
  have HH := hitsErr_s l hits hh
  rw [h] at HH
  refine summW Tryz.func76 rfl rfl 40 rfl (by simp) (fun M0 => ?_)
  repeat (first
    | (apply s_a TY; exact rfl)
    | (apply s_t; exact rfl; (first | assumption | omega))
    | apply w_seq
    | apply w_region
    | apply s_nil
    | apply t_norm
    | apply w_ret
    | (apply w_condT; exact rfl; exact rfl)
    | (apply s_k (HH); exact rfl)
    | (apply s_k1 (first2_1 _ _); exact rfl; (first | assumption | omega | decide))
    | (apply s_k2 (openArray_ok _); exact rfl; (first | assumption | omega | decide); (first | assumption | omega | decide))
    | (apply s_k1 (CheckSetup_s _); exact rfl; (first | assumption | omega | decide))
    | (apply s_alloc TY; exact rfl; exact rfl; exact rfl)
    | (apply s_store TY; exact rfl; exact rfl; exact rfl; exact rfl; exact rfl; exact rfl))
  exact lv_ret (ret2 rfl (res_bxs (sub := [.sl l.length (sitesF l), .mp (mapS l l.length), .sl s.rules.length (rulesF s.rules), iv s.before, iv s.after, iv s.dead]) TY rfl rfl rfl rfl rfl) (res_tmp rfl))
set_option maxRecDepth 100000 in
set_option maxHeartbeats 1600000 in
theorem openRule_ok (l : List Site) (r : Rule) (hits : List Hit) (hl : l.length ≤ 1000000) (hh : hits.length ≤ 1000000) (h : ruledErr l r hits = 0) : Summ Tryz.prog GG 60 [arrF l, .agg (ruleF r), .sl hits.length (hitsF hits)] (.tup [arrayV l, iv 0]) := by
  unfold ruledErr at h
  have h1 : (arrChk l).2 = 0 := Classical.byContradiction fun h1 => by rw [if_pos h1] at h; exact h1 h
  rw [if_neg (by simpa using h1)] at h
  have h2 : ruleErr r = 0 := Classical.byContradiction fun h2 => by rw [if_pos h2] at h; exact h2 h
  rw [if_neg (by simpa using h2)] at h
  have HH := hitsErr_s l hits hh
  rw [h] at HH
  refine summW Tryz.func60 rfl rfl 32 rfl (by simp) (fun M0 => ?_)
  repeat (first
    | (apply s_a TY; exact rfl)
    | (apply s_t; exact rfl; (first | assumption | omega))
    | apply w_seq
    | apply w_region
    | apply s_nil
    | apply t_norm
    | apply w_ret
    | (apply w_condT; exact rfl; exact rfl)
    | (apply s_k (HH); exact rfl)
    | (apply s_k1 (first2_1 _ _); exact rfl; (first | assumption | omega | decide))
    | (apply s_k2 (openArray_ok _); exact rfl; (first | assumption | omega | decide); (first | assumption | omega | decide))
    | (apply s_k (CheckRule_s _); exact rfl)
    | (apply s_alloc TY; exact rfl; exact rfl; exact rfl)
    | (apply s_store TY; exact rfl; exact rfl; exact rfl; exact rfl; exact rfl; exact rfl))
  exact lv_ret (ret2 rfl (res_bxs (sub := [.sl l.length (sitesF l), .mp (mapS l l.length)]) TY rfl rfl rfl rfl rfl) (res_tmp rfl))
theorem CopyHits_s (l : List Hit) (hl : l.length ≤ 1000000) : Summ Tryz.prog GG 16 [.sl l.length (hitsF l)] (.sl l.length (hitsF l)) := by
  have hlen := hitsF_len l
  refine summW Tryz.func16 rfl rfl 6 rfl (by simp) (fun M0 => ?_)
  repeat (first
    | (apply s_bslice_clip TY; exact rfl; exact rfl; exact rfl; exact rfl; exact rfl; exact rfl)
    | (apply s_append_copy TY; exact rfl; exact rfl; exact rfl; exact rfl; exact rfl; exact rfl; exact rfl; assumption; (unfold maxLen; omega); omega)
    | (apply s_a TY; exact rfl)
    | apply w_seq
    | apply w_region
    | apply s_nil
    | apply t_norm
    | apply w_ret)
  exact lv_ret (ret1 rfl (res_tmp rfl))
theorem CopyArray_s (l : List Site) (hl : l.length ≤ 1000000) : Summ Tryz.prog GG 15 [arrF l] (arrF l) := by
  have hlen := sitesF_len l
  refine summW Tryz.func15 rfl rfl 8 rfl (by simp) (fun M0 => ?_)
  repeat (first
    | (apply s_bslice_clip TY; exact rfl; exact rfl; exact rfl; exact rfl; exact rfl; exact rfl)
    | (apply s_append_copy TY; exact rfl; exact rfl; exact rfl; exact rfl; exact rfl; exact rfl; exact rfl; assumption; (unfold maxLen; omega); omega)
    | (apply s_a TY; exact rfl)
    | apply w_seq
    | apply w_region
    | apply s_nil
    | apply t_norm
    | apply w_ret
    | (apply s_alloc TY; exact rfl; exact rfl; exact rfl)
    | (apply s_store TY; exact rfl; exact rfl; exact rfl; exact rfl; exact rfl; exact rfl))
  exact lv_ret (ret1 rfl (res_bxs (sub := [.sl l.length (sitesF l)]) TY rfl rfl rfl rfl rfl))
theorem CopySetup_s (s : Setup) (hs : s.rules.length ≤ 1000000) : Summ Tryz.prog GG 28 [setF s] (setF s) := by
  have hlen := rulesF_len s.rules
  refine summW Tryz.func28 rfl rfl 9 rfl (by simp) (fun M0 => ?_)
  repeat (first
    | (apply s_bslice_clip TY; exact rfl; exact rfl; exact rfl; exact rfl; exact rfl; exact rfl)
    | (apply s_append_copy TY; exact rfl; exact rfl; exact rfl; exact rfl; exact rfl; exact rfl; exact rfl; assumption; (unfold maxLen; omega); omega)
    | (apply s_boxw; exact rfl; exact rfl; exact rfl; exact rfl)
    | (apply s_a TY; exact rfl)
    | apply w_seq
    | apply w_region
    | apply s_nil
    | apply t_norm
    | apply w_ret
    | (apply s_alloc TY; exact rfl; exact rfl; exact rfl)
    | (apply s_store TY; exact rfl; exact rfl; exact rfl; exact rfl; exact rfl; exact rfl))
  exact lv_ret (ret1 rfl (res_bxs (sub := setL s) TY rfl rfl rfl rfl rfl))
end Go.Proofs.YtdmdpkoapllkkaaGreat
namespace Go.Proofs.YtdmdpkoapllkkaaGreat
open Go Go.RowKit Go.Proofs Go.Shelf Go.Ab
structure HitOk (l : List Site) (a : Hit) : Prop where
  tm : 0 ≤ a.tm ∧ a.tm ≤ 1000000000000
  line : 1 ≤ a.line ∧ a.line ≤ 100
  sensor : 1 ≤ a.sensor ∧ a.sensor ≤ 100
  site : ∃ k : Nat, k < l.length ∧ siteM l a = some (k : Int) ∧ addr (l.getD k default) = hitA a
structure ArrOk (l : List Site) : Prop where
  pos : 1 ≤ l.length
  len : l.length ≤ 30
  right : ∀ i, i < l.length → siteRight (l.getD i default)
  apart : ∀ i j, i < j → j < l.length → addr (l.getD i default) ≠ addr (l.getD j default)
theorem arrOk_of {l : List Site} (h : (arrChk l).2 = 0) : ArrOk l := by
  have hn : ¬ l.length = 0 := fun hn => by unfold arrChk at h; rw [if_pos hn] at h; cases h
  have h30 : ¬ 30 < l.length := fun h3 => by unfold arrChk at h; rw [if_neg hn, if_pos h3] at h; cases h
  unfold arrChk at h
  rw [if_neg hn, if_neg h30] at h
  have hz : ∀ i, i < l.length → siteE l i = 0 := by
    rcases eachE_cases l.length (siteE l) with ⟨_, hz⟩ | ⟨q, _, _, hne, he⟩
    · exact hz
    · rw [he] at h; exact absurd h hne
  have hr : ∀ i, i < l.length → siteRight (l.getD i default) ∧ idxM l i (addr (l.getD i default)) = none := fun i hi => by
    have := hz i hi
    unfold siteE at this
    by_cases h1 : siteRight (l.getD i default)
    · rw [if_neg (by simpa using h1)] at this
      refine ⟨h1, ?_⟩
      cases h2 : idxM l i (addr (l.getD i default)) with
      | none => rfl
      | some z => rw [h2] at this; simp at this
    · rw [if_pos h1] at this; cases this
  exact ⟨by omega, by omega, fun i hi => (hr i hi).1, fun i j hij hj => idxM_none.1 (hr j hj).2 i hij⟩
structure HitsOk (l : List Site) (h : List Hit) : Prop where
  len : h.length ≤ 40
  hit : ∀ i (hi : i < h.length), HitOk l h[i]
  next : ∀ i (hi : i + 1 < h.length), before h[i] h[i + 1]
theorem before_trans {a b c : Hit} (h : before a b) (k : before b c) : before a c := by unfold before at *; omega
theorem before_irr {a : Hit} : ¬ before a a := by unfold before; omega
theorem before_tot {a b : Hit} : before a b ∨ a = b ∨ before b a := by
  cases a; cases b; simp only [Hit.mk.injEq]; unfold before; simp only; omega
theorem before_tm {a b : Hit} (h : before a b) : a.tm ≤ b.tm := by unfold before at h; omega
theorem HitsOk.lt {l : List Site} {h : List Hit} (o : HitsOk l h) : ∀ (j i : Nat) (hj : j < h.length) (hi : i < j), before (h[i]'(by omega)) h[j]
  | 0, i, _, hi => by omega
  | j + 1, i, hj, hi => by
    by_cases e : i = j
    · subst e; exact o.next i hj
    · exact before_trans (o.lt j i (by omega) (by omega)) (o.next j hj)
theorem HitsOk.tm {l : List Site} {h : List Hit} (o : HitsOk l h) (i j : Nat) (hij : i ≤ j) (hj : j < h.length) : (h[i]'(by omega)).tm ≤ h[j].tm := by
  by_cases e : i = j
  · subst e; exact Int.le_refl _
  · exact before_tm (o.lt j i hj (by omega))
theorem hitsOk_of {l : List Site} {h : List Hit} (hl : ArrOk l) (hh : (hitsChk l h).2 = 0) : HitsOk l h := by
  have h40 : ¬ 40 < h.length := fun h4 => by unfold hitsChk at hh; rw [if_pos h4] at hh; cases hh
  unfold hitsChk at hh
  rw [if_neg h40] at hh
  have hz : ∀ i, i < h.length → hitE l h i = 0 := by
    rcases eachE_cases h.length (hitE l h) with ⟨_, hz⟩ | ⟨q, _, _, hne, he⟩
    · exact hz
    · rw [he] at hh; exact absurd hh hne
  have hr : ∀ i (hi : i < h.length), withinB h[i].tm 0 1000000000000 = true ∧ (siteM l h[i]).isSome = true ∧ (i ≠ 0 → before (h.getD (i - 1) default) h[i]) := fun i hi => by
    have := hz i hi
    unfold hitE at this
    rw [getD_at hi] at this
    cases h1 : withinB h[i].tm 0 1000000000000 with
    | false => rw [h1, firstE_hd (by decide)] at this; cases this
    | true =>
      rw [h1] at this
      cases h2 : (siteM l h[i]).isSome with
      | false => rw [h2] at this; simp [unlessE, firstE] at this
      | true =>
        rw [h2] at this
        refine ⟨rfl, rfl, fun h0 => ?_⟩
        by_cases h3 : before (h.getD (i - 1) default) h[i]
        · exact h3
        · rw [decide_eq_false h0, decide_eq_false h3] at this; simp [unlessE, firstE] at this
  refine ⟨by omega, fun i hi => ?_, fun i hi => ?_⟩
  · obtain ⟨h1, h2, _⟩ := hr i hi
    obtain ⟨z, hz⟩ := Option.isSome_iff_exists.1 h2
    obtain ⟨k, hk, rfl, ha⟩ := idxM_some hz
    have hR := hl.right k hk
    unfold siteRight at hR
    have ha' := ha
    unfold addr hitA at ha'
    obtain ⟨e1, e2⟩ := Prod.mk.inj ha'
    exact ⟨by simpa [withinB] using h1, by rw [← e1]; exact hR.1, by rw [← e2]; exact hR.2.1, k, hk, hz, ha⟩
  · have := (hr (i + 1) hi).2.2 (by omega)
    rwa [show i + 1 - 1 = i by omega, getD_at (by omega)] at this
def siteAt (l : List Site) (a : Hit) : Site := l.getD ((siteM l a).getD 0).toNat default
def nearB (l : List Site) (r : Rule) (a b : Hit) : Bool :=
  if r.kind = 1 then decide (a.line = b.line) && withinB (a.sensor - b.sensor) (-r.reach) r.reach
  else if r.kind = 2 then decide (((siteAt l a).x - (siteAt l b).x) * ((siteAt l a).x - (siteAt l b).x) + ((siteAt l a).y - (siteAt l b).y) * ((siteAt l a).y - (siteAt l b).y) ≤ r.reach * r.reach) && withinB ((siteAt l a).z - (siteAt l b).z) (-r.height) r.height
  else true
theorem ruleOk_of {r : Rule} (h : ruleErr r = 0) : (0 ≤ r.kind ∧ r.kind ≤ 3) ∧ (1 ≤ r.count ∧ r.count ≤ 40) ∧ (0 ≤ r.window ∧ r.window ≤ 1000000) ∧ (0 ≤ r.reach ∧ r.reach ≤ 1000000) ∧ (0 ≤ r.height ∧ r.height ≤ 1000000) ∧ (r.kind = 3 → r.reach ≤ r.window) := by
  unfold ruleErr at h
  split at h
  · cases h
  · split at h
    · cases h
    · split at h
      · cases h
      · omega
theorem sq_le {a b : Int} (h : -b ≤ a ∧ a ≤ b) : 0 ≤ a * a ∧ a * a ≤ b * b := by
  have hn : (a.natAbs : Int) * (a.natAbs : Int) = a * a := by
    rcases Int.natAbs_eq a with e | e
    · rw [← e]
    · have : (a.natAbs : Int) = -a := by omega
      rw [this, Int.neg_mul_neg]
  have h1 : (a.natAbs : Int) ≤ b := by omega
  exact ⟨by rw [← hn]; exact Int.mul_nonneg (by omega) (by omega), by rw [← hn]; exact Int.mul_le_mul h1 h1 (by omega) (by omega)⟩
set_option maxRecDepth 100000 in
set_option maxHeartbeats 1600000 in
theorem near_s (l : List Site) (r : Rule) (a b : Hit) (hl0 : ArrOk l) (hr : ruleErr r = 0) (ha : HitOk l a) (hb : HitOk l b) : Summ Tryz.prog GG 153 [arrayV l, .agg (ruleF r), .agg (hitF a), .agg (hitF b)] (bv (nearB l r a b)) := by
  obtain ⟨r1, r2, r3, r4, r5, r6⟩ := ruleOk_of hr
  obtain ⟨ka, hka, sa, _⟩ := ha.site
  obtain ⟨kb, hkb, sb, _⟩ := hb.site
  have HA := site_s l a
  have HB := site_s l b
  rw [sa] at HA
  rw [sb] at HB
  have ea : siteAt l a = l[ka] := by unfold siteAt; rw [sa]; exact getD_at hka
  have eb : siteAt l b = l[kb] := by unfold siteAt; rw [sb]; exact getD_at hkb
  have ra := hl0.right ka hka
  have rb := hl0.right kb hkb
  rw [getD_at hka] at ra
  rw [getD_at hkb] at rb
  unfold siteRight at ra rb
  have lal := ha.line
  have las := ha.sensor
  have lbl := hb.line
  have lbs := hb.sensor
  have px := sq_le (a := l[ka].x - l[kb].x) (b := 200000) (by omega)
  have py := sq_le (a := l[ka].y - l[kb].y) (b := 200000) (by omega)
  have pr := sq_le (a := r.reach) (b := 1000000) (by omega)
  by_cases k1 : r.kind = 1
  · by_cases hl : a.line = b.line
    · rw [show nearB l r a b = withinB (a.sensor - b.sensor) (-r.reach) r.reach by unfold nearB; rw [if_pos k1]; simp [hl]]
      refine summW Tryz.func153 rfl rfl 95 rfl (by simp) (fun M0 => ?_)
      repeat (first
    | (apply s_a TY; exact rfl)
    | (apply s_t; exact rfl; (first | assumption | omega))
    | apply w_seq
    | apply w_region
    | apply s_nil
    | apply t_norm
    | apply t_ret
    | apply k_ret
    | apply w_block
    | apply w_ret
    | (apply w_condT; exact rfl; exact rfl)
    | (apply s_k1 (isSized_s _ _); exact rfl; (first | assumption | omega | decide))
    | (apply s_c TY; exact rfl; (first | omega | exact ⟨by omega, by (first | with_reducible assumption | ((with_reducible apply sitesF_ne); omega) | assumption)⟩)))
      exact lv_ret (ret1 rfl (res_tmp rfl))
    · rw [show nearB l r a b = false by unfold nearB; rw [if_pos k1]; simp [hl]]
      refine summW Tryz.func153 rfl rfl 95 rfl (by simp) (fun M0 => ?_)
      repeat (first
    | (apply s_a TY; exact rfl)
    | (apply s_t; exact rfl; (first | assumption | omega))
    | (apply s_f; exact rfl; (first | assumption | omega))
    | apply w_seq
    | apply w_region
    | apply s_nil
    | apply t_norm
    | apply t_ret
    | apply k_ret
    | apply w_block
    | apply w_ret
    | (apply w_condT; exact rfl; exact rfl)
    | (apply s_s; exact rfl))
      exact lv_ret (ret1 rfl (res_tmp rfl))
  · by_cases k2 : r.kind = 2
    · by_cases hx : (l[ka].x - l[kb].x) * (l[ka].x - l[kb].x) + (l[ka].y - l[kb].y) * (l[ka].y - l[kb].y) ≤ r.reach * r.reach
      · rw [show nearB l r a b = withinB (l[ka].z - l[kb].z) (-r.height) r.height by unfold nearB; rw [if_neg k1, if_pos k2, ea, eb]; simp [hx]]
        refine summW Tryz.func153 rfl rfl 95 rfl (by simp) (fun M0 => ?_)
        repeat (first
    | (apply s_a TY; exact rfl)
    | (apply s_t; exact rfl; (first | assumption | omega))
    | (apply s_f; exact rfl; (first | assumption | omega))
    | apply w_seq
    | apply w_region
    | (apply w_draw1 (id := 7) 14 rfl (by kernel_rfl); exact rfl; kernel_rfl)
    | (apply s_allocB TY (d := some 13); exact rfl; exact rfl; exact rfl)
    | (apply s_sto TY; exact rfl; exact rfl; exact rfl; exact rfl; exact rfl; exact rfl; exact rfl)
    | (apply w_draw (id := 8) 11 rfl (by kernel_rfl))
    | apply s_nil
    | apply t_norm
    | apply t_ret
    | apply k_ret
    | apply w_block
    | apply w_ret
    | (apply w_condT; exact rfl; exact rfl)
    | (apply w_condF; exact rfl; exact rfl)
    | (apply s_k (HA); exact rfl)
    | (apply s_k (HB); exact rfl)
    | (apply s_k1 (isSized_s _ _); exact rfl; (first | assumption | omega | decide))
    | (apply s_c TY; exact rfl; (first | omega | exact ⟨by omega, by (first | with_reducible assumption | ((with_reducible apply sitesF_ne); omega) | assumption)⟩))
    | (apply s_m TY; exact rfl; (first | with_reducible assumption | ((with_reducible apply sitesF_sub); omega) | exact rfl); exact rfl)
    | (apply s_alloc TY; exact rfl; exact rfl; exact rfl)
    | (apply s_store TY; exact rfl; exact rfl; exact rfl; exact rfl; exact rfl; exact rfl))
        exact lv_ret (ret1 rfl (res_tmp rfl))
      · rw [show nearB l r a b = false by unfold nearB; rw [if_neg k1, if_pos k2, ea, eb]; simp [hx]]
        refine summW Tryz.func153 rfl rfl 95 rfl (by simp) (fun M0 => ?_)
        repeat (first
    | (apply s_a TY; exact rfl)
    | (apply s_t; exact rfl; (first | assumption | omega))
    | (apply s_f; exact rfl; (first | assumption | omega))
    | apply w_seq
    | apply w_region
    | (apply w_draw1 (id := 7) 14 rfl (by kernel_rfl); exact rfl; kernel_rfl)
    | (apply s_allocB TY (d := some 13); exact rfl; exact rfl; exact rfl)
    | (apply s_sto TY; exact rfl; exact rfl; exact rfl; exact rfl; exact rfl; exact rfl; exact rfl)
    | (apply w_draw (id := 8) 11 rfl (by kernel_rfl))
    | apply s_nil
    | apply t_norm
    | apply t_ret
    | apply k_ret
    | apply w_block
    | apply w_ret
    | (apply w_condT; exact rfl; exact rfl)
    | (apply w_condF; exact rfl; exact rfl)
    | (apply s_k (HA); exact rfl)
    | (apply s_k (HB); exact rfl)
    | (apply s_s; exact rfl)
    | (apply s_c TY; exact rfl; (first | omega | exact ⟨by omega, by (first | with_reducible assumption | ((with_reducible apply sitesF_ne); omega) | assumption)⟩))
    | (apply s_m TY; exact rfl; (first | with_reducible assumption | ((with_reducible apply sitesF_sub); omega) | exact rfl); exact rfl)
    | (apply s_alloc TY; exact rfl; exact rfl; exact rfl)
    | (apply s_store TY; exact rfl; exact rfl; exact rfl; exact rfl; exact rfl; exact rfl))
        exact lv_ret (ret1 rfl (res_tmp rfl))
    · rw [show nearB l r a b = true by unfold nearB; rw [if_neg k1, if_neg k2]]
      refine summW Tryz.func153 rfl rfl 95 rfl (by simp) (fun M0 => ?_)
      repeat (first
    | (apply s_a TY; exact rfl)
    | (apply s_f; exact rfl; (first | assumption | omega))
    | apply w_seq
    | apply w_region
    | apply s_nil
    | apply t_norm
    | apply k_norm
    | apply w_block
    | apply w_ret
    | apply w_skip
    | (apply w_condF; exact rfl; exact rfl))
      exact lv_ret (ret1 rfl (res_tmp rfl))
end Go.Proofs.YtdmdpkoapllkkaaGreat
namespace Go.Proofs.YtdmdpkoapllkkaaGreat
open Go Go.RowKit Go.Proofs Go.Shelf Go.Ab
def idxP (n : Nat) (p : Nat → Bool) : Int := match (List.range n).find? p with
  | some i => i
  | none => -1
def anyP (n : Nat) (p : Nat → Bool) : Bool := (List.range n).any p
theorem idxP_no {n : Nat} {p : Nat → Bool} (h : ∀ i, i < n → p i = false) : idxP n p = -1 := by
  unfold idxP
  rw [List.find?_eq_none.2 (fun i hi => by rw [h i (List.mem_range.1 hi)]; decide)]
theorem idxP_at {n k : Nat} {p : Nat → Bool} (hk : k < n) (h : ∀ i, i < k → p i = false) (hp : p k = true) : idxP n p = k := by
  obtain ⟨m, rfl⟩ : ∃ m, n = k + 1 + m := ⟨n - k - 1, by omega⟩
  unfold idxP
  rw [List.range_add, List.range_succ, List.append_assoc, List.find?_append, List.find?_eq_none.2 (fun i hi => by rw [h i (List.mem_range.1 hi)]; decide), Option.none_or, List.singleton_append, List.find?_cons, hp]
theorem anyP_iff {n : Nat} {p : Nat → Bool} : anyP n p = true ↔ ∃ i, i < n ∧ p i = true := by
  unfold anyP
  rw [List.any_eq_true]
  exact ⟨fun ⟨i, h1, h2⟩ => ⟨i, List.mem_range.1 h1, h2⟩, fun ⟨i, h1, h2⟩ => ⟨i, List.mem_range.2 h1, h2⟩⟩
theorem idxP_cases (n : Nat) (p : Nat → Bool) : (idxP n p = -1 ∧ ∀ i, i < n → p i = false) ∨ ∃ k, k < n ∧ (∀ i, i < k → p i = false) ∧ p k = true ∧ idxP n p = k := by
  by_cases h : ∃ i, i < n ∧ p i = true
  · obtain ⟨k, ⟨hk, hp⟩, hmin⟩ := exists_least h
    have hz : ∀ i, i < k → p i = false := fun i hi => by
      cases hpi : p i with
      | false => rfl
      | true => have := hmin i ⟨by omega, hpi⟩; omega
    exact .inr ⟨k, hk, hz, hp, idxP_at hk hz hp⟩
  · have hz : ∀ i, i < n → p i = false := fun i hi => by
      cases hpi : p i with
      | false => rfl
      | true => exact absurd ⟨i, hi, hpi⟩ h
    exact .inl ⟨idxP_no hz, hz⟩
theorem idxP_pos (n : Nat) (p : Nat → Bool) : 0 ≤ idxP n p ↔ anyP n p = true := by
  rw [anyP_iff]
  rcases idxP_cases n p with ⟨e, h⟩ | ⟨k, hk, _, hp, e⟩
  · rw [e]
    exact ⟨fun h => by omega, fun ⟨i, h1, h2⟩ => by rw [h i h1] at h2; cases h2⟩
  · rw [e]
    exact ⟨fun _ => ⟨k, hk, hp⟩, fun _ => by omega⟩
set_option maxRecDepth 100000 in
theorem idxI_s (l : List Int) (g : Nat) (caps : List FV) (p : Nat → Bool) (hl : l.length ≤ 1000000) (hg : ∀ i (hi : i < l.length), Summ Tryz.prog GG g ([iv l[i]] ++ caps) (bv (p i))) : Summ Tryz.prog GG 134 [.sl l.length (intsF l), .fn g caps] (iv (idxP l.length p)) := by
  refine summW Tryz.func134 rfl rfl 19 rfl (by simp) (fun M0 => ?_)
  repeat (first
    | (apply s_a TY; exact rfl)
    | apply w_seq
    | apply w_region
    | apply s_nil
    | apply t_norm
    | apply w_block)
  apply w_loop (fun k : Nat => ⟨(Ab.upd (Ab.upd (Ab.upd (Ab.upd (fun _ => .bot) 0 (.f (.sl l.length (intsF l)))) 1 (.f (.fn g caps))) 7 (.f (iv l.length))) 8 (.f (iv (k : Nat)))), (fun _ => none), 0⟩) (fun k => k ≤ l.length ∧ ∀ i, i < k → p i = false) (fun k => l.length - k) 0 (⟨Nat.zero_le _, fun j h => absurd h (Nat.not_lt_zero j)⟩) (gh_le ⟨le_upd rfl trivial (le_upd rfl trivial (le_upd rfl trivial (le_upd rfl trivial (le_nil _)))), le_h0 _ _⟩)
  intro k ⟨hk, hz⟩
  by_cases hc : k < l.length
  · have Hc := hg k hc
    cases hp : p k with
    | true =>
      rw [hp] at Hc
      rw [idxP_at hc hz hp]
      repeat (first
    | (apply s_a TY; exact rfl)
    | (apply s_t; exact rfl; (first | assumption | omega))
    | apply w_seq
    | apply w_region
    | apply s_nil
    | apply t_norm
    | apply t_ret
    | apply k_ret
    | apply w_block
    | apply w_ret
    | apply w_skip
    | (apply w_condT; exact rfl; exact rfl)
    | (apply s_k (Hc); exact rfl)
    | (apply s_c TY; exact rfl; (first | omega | exact ⟨by omega, by (first | with_reducible assumption | ((with_reducible apply intsF_ne); omega) | assumption)⟩))
    | (apply s_l TY; exact rfl; (first | exact rfl | with_reducible assumption | ((with_reducible apply intsF_at); omega) | assumption)))
      exact lv_ret (ret1 rfl (res_tmp rfl))
    | false =>
      rw [hp] at Hc
      repeat (first
    | (apply s_a TY; exact rfl)
    | (apply s_t; exact rfl; (first | assumption | omega))
    | apply w_seq
    | apply w_region
    | apply s_nil
    | apply t_norm
    | apply k_norm
    | apply w_block
    | apply w_skip
    | (apply w_condT; exact rfl; exact rfl)
    | (apply w_condF; exact rfl; exact rfl)
    | (apply s_k (Hc); exact rfl)
    | (apply s_c TY; exact rfl; (first | omega | exact ⟨by omega, by (first | with_reducible assumption | ((with_reducible apply intsF_ne); omega) | assumption)⟩))
    | (apply s_l TY; exact rfl; (first | exact rfl | with_reducible assumption | ((with_reducible apply intsF_at); omega) | assumption)))
      exact ⟨k + 1, ⟨by omega, fun i hi => by
        by_cases e : i = k
        · subst e; exact hp
        · exact hz i (by omega)⟩, by omega, gh_le ⟨le_upd rfl trivial (le_upd rfl trivial (le_upd rfl trivial (le_upd rfl trivial (le_nil _)))), le_h0 _ _⟩⟩
  · rw [idxP_no fun i hi => hz i (by omega)]
    repeat (first
    | (apply s_a TY; exact rfl)
    | (apply s_f; exact rfl; (first | assumption | omega))
    | apply w_seq
    | apply w_region
    | apply s_nil
    | apply t_norm
    | apply t_exit
    | apply k_hit
    | apply w_exit
    | apply w_ret
    | (apply w_condF; exact rfl; exact rfl))
    exact lv_ret (ret1 rfl (res_tmp rfl))
set_option maxRecDepth 100000 in
theorem idxIC_s (l : List Int) (g : Nat) (caps : List FV) (p : Nat → Bool) (hl : l.length ≤ 1000000) (hg : ∀ i (hi : i < l.length), Summ Tryz.prog GG g ([iv l[i]] ++ caps) (bv (p i))) : Summ Tryz.prog GG 98 [.sl l.length (intsF l), .fn g caps] (bv (anyP l.length p)) := by
  have HI := idxI_s l g caps p hl hg
  cases ha : anyP l.length p with
  | true =>
    have h0 := (idxP_pos l.length p).2 ha
    refine summW Tryz.func98 rfl rfl 9 rfl (by simp) (fun M0 => ?_)
    repeat (first
    | (apply s_a TY; exact rfl)
    | (apply s_t; exact rfl; (first | assumption | omega))
    | apply w_seq
    | apply w_region
    | apply s_nil
    | apply t_norm
    | apply w_ret
    | (apply s_k (HI); exact rfl))
    exact lv_ret (ret1 rfl (res_tmp rfl))
  | false =>
    have h0 : ¬ 0 ≤ idxP l.length p := fun h => by rw [(idxP_pos l.length p).1 h] at ha; cases ha
    refine summW Tryz.func98 rfl rfl 9 rfl (by simp) (fun M0 => ?_)
    repeat (first
    | (apply s_a TY; exact rfl)
    | (apply s_f; exact rfl; (first | assumption | omega))
    | apply w_seq
    | apply w_region
    | apply s_nil
    | apply t_norm
    | apply w_ret
    | (apply s_k (HI); exact rfl))
    exact lv_ret (ret1 rfl (res_tmp rfl))
def natsL (l : List Nat) : List Int := l.map fun (n : Nat) => (n : Int)
theorem natsL_len (l : List Nat) : (natsL l).length = l.length := by simp [natsL]
theorem natsL_at {l : List Nat} {i : Nat} (h : i < (natsL l).length) : (natsL l)[i] = ((l[i]'(by rw [← natsL_len]; exact h) : Nat) : Int) := by simp [natsL]
def folB (r : Rule) (h : List Hit) (way : Int) (i k : Nat) : Bool := decide ((h.getD k default).line = (h.getD i default).line) && decide ((h.getD k default).sensor = (h.getD i default).sensor + way) && withinB ((h.getD k default).tm - (h.getD i default).tm) r.reach r.window
def nextL (r : Rule) (h : List Hit) (way : Int) (now : List Nat) (n : Nat) : List Nat := (List.range n).filter fun k => now.any fun i => folB r h way i k
def layL (r : Rule) (h : List Hit) (way : Int) (a : Nat) : Nat → List Nat
  | 0 => [a]
  | m + 1 => nextL r h way (layL r h way a m) h.length
theorem layL_lt {r : Rule} {h : List Hit} {way : Int} {a : Nat} (ha : a < h.length) : ∀ {m k : Nat}, k ∈ layL r h way a m → k < h.length
  | 0, k, hk => by simp only [layL, List.mem_singleton] at hk; subst hk; exact ha
  | m + 1, k, hk => by
    simp only [layL, nextL, List.mem_filter] at hk
    exact List.mem_range.1 hk.1
theorem layL_len {r : Rule} {h : List Hit} {way : Int} {a : Nat} (ha : a < h.length) (m : Nat) : (layL r h way a m).length ≤ h.length := by
  cases m with
  | zero => simp only [layL, List.length_singleton]; omega
  | succ m => exact Nat.le_trans (List.length_filter_le _ _) (by simp)
def minA (acc : Option Int) (z : Int) : Option Int := match acc with
  | none => some z
  | some e => if z < e then some z else some e
def endA (h : List Hit) (acc : Option Int) (l : List Nat) : Option Int := l.foldl (fun a k => minA a (h.getD k default).tm) acc
def wayI (q : Nat) : Int := if q = 0 then 1 else -1
def accW (r : Rule) (h : List Hit) (a : Nat) : Nat → Option Int
  | 0 => none
  | q + 1 => endA h (accW r h a q) (layL r h (wayI q) a (r.count - 1).toNat)
def slowV (r : Rule) (h : List Hit) (a : Nat) : Option Int := accW r h a 2
theorem endA_take {h : List Hit} {acc : Option Int} {l : List Nat} {j : Nat} (hj : j < l.length) : endA h acc (l.take (j + 1)) = minA (endA h acc (l.take j)) (h.getD l[j] default).tm := by
  unfold endA; rw [List.take_succ_eq_append_getElem hj, List.foldl_append]; rfl
theorem nextL_succ (r : Rule) (h : List Hit) (way : Int) (now : List Nat) (n : Nat) : nextL r h way now (n + 1) = nextL r h way now n ++ (if (now.any fun i => folB r h way i n) = true then [n] else []) := by
  unfold nextL
  rw [List.range_succ, List.filter_append]
  congr 1
  by_cases e : (now.any fun i => folB r h way i n) = true
  · rw [if_pos e]; simp only [List.filter, e]
  · rw [if_neg e]; simp only [List.filter, e]
theorem row_appN (L : List Nat) (n : Nat) : some (Blk.row 3 1 (L ++ [n]).length (intsF (natsL (L ++ [n])))) = some (Blk.row 3 1 (L.length + 1) (intsF (natsL L) ++ [iv (n : Int)])) := by
  rw [show natsL (L ++ [n]) = natsL L ++ [(n : Int)] by simp [natsL], intsF_snoc, List.length_append]; rfl
theorem anyP_any (now : List Nat) (f : Nat → Bool) : anyP (natsL now).length (fun j => f (now.getD j 0)) = now.any f := by
  rw [natsL_len, Bool.eq_iff_iff, anyP_iff, List.any_eq_true]
  constructor
  · rintro ⟨i, hi, hf⟩
    have e : now.getD i 0 = now[i] := by simp [List.getD_eq_getElem?_getD, List.getElem?_eq_getElem hi]
    rw [e] at hf
    exact ⟨now[i], List.getElem_mem _, hf⟩
  · rintro ⟨x, hx, hf⟩
    obtain ⟨i, hi, rfl⟩ := List.getElem_of_mem hx
    exact ⟨i, hi, by simp only [List.getD_eq_getElem?_getD, List.getElem?_eq_getElem hi]; exact hf⟩
set_option maxRecDepth 100000 in
theorem follows_s (l : List Site) (r : Rule) (h : List Hit) (way : Int) (i k : Nat) (hi : i < h.length) (hk : k < h.length) (hw : -1 ≤ way ∧ way ≤ 1) (oi : HitOk l h[i]) (ok : HitOk l h[k]) : Summ Tryz.prog GG 164 [iv (i : Nat), .pt (hitF h[k]) 0, .pt [.sl h.length (hitsF h)] 0, .pt [iv way] 0, .pt (ruleF r) 0] (bv (folB r h way i k)) := by
  have gi := getD_at hi
  have gk := getD_at hk
  have o1 := oi.tm
  have o2 := oi.sensor
  have o3 := ok.tm
  have o4 := ok.sensor
  by_cases hl : h[k].line = h[i].line
  · by_cases hs : h[k].sensor = h[i].sensor + way
    · rw [show folB r h way i k = withinB (h[k].tm - h[i].tm) r.reach r.window by unfold folB; rw [gi, gk]; simp [hl, hs]]
      refine summW Tryz.func164 rfl rfl 42 rfl (by simp) (fun M0 => ?_)
      repeat (first
    | (apply s_a TY; exact rfl)
    | (apply s_t; exact rfl; (first | assumption | omega))
    | apply w_seq
    | apply w_region
    | (apply w_draw (id := 1) 33 rfl (by kernel_rfl))
    | apply s_nil
    | apply t_norm
    | apply w_ret
    | (apply s_k (within_s _ _ _); exact rfl)
    | (apply s_c TY; exact rfl; (first | omega | exact ⟨by omega, by (first | with_reducible assumption | ((with_reducible apply hitsF_ne); omega) | assumption)⟩))
    | (apply s_l TY; exact rfl; (first | exact rfl | with_reducible assumption | ((with_reducible apply hitsF_f0); omega) | ((with_reducible apply hitsF_f1); omega) | ((with_reducible apply hitsF_f2); omega) | assumption)))
      exact lv_ret (ret1 rfl (res_tmp rfl))
    · rw [show folB r h way i k = false by unfold folB; rw [gi, gk]; simp [hl, hs]]
      refine summW Tryz.func164 rfl rfl 42 rfl (by simp) (fun M0 => ?_)
      repeat (first
    | (apply s_a TY; exact rfl)
    | (apply s_t; exact rfl; (first | assumption | omega))
    | (apply s_f; exact rfl; (first | assumption | omega))
    | apply w_seq
    | apply w_region
    | (apply w_draw (id := 1) 33 rfl (by kernel_rfl))
    | apply s_nil
    | apply t_norm
    | apply w_ret
    | (apply s_s; exact rfl)
    | (apply s_c TY; exact rfl; (first | omega | exact ⟨by omega, by (first | with_reducible assumption | ((with_reducible apply hitsF_ne); omega) | assumption)⟩))
    | (apply s_l TY; exact rfl; (first | exact rfl | with_reducible assumption | ((with_reducible apply hitsF_f0); omega) | ((with_reducible apply hitsF_f1); omega) | ((with_reducible apply hitsF_f2); omega) | assumption)))
      exact lv_ret (ret1 rfl (res_tmp rfl))
  · rw [show folB r h way i k = false by unfold folB; rw [gi, gk]; simp [hl]]
    refine summW Tryz.func164 rfl rfl 42 rfl (by simp) (fun M0 => ?_)
    repeat (first
    | (apply s_a TY; exact rfl)
    | (apply s_f; exact rfl; (first | assumption | omega))
    | apply w_seq
    | apply w_region
    | (apply w_draw (id := 1) 33 rfl (by kernel_rfl))
    | apply s_nil
    | apply t_norm
    | apply w_ret
    | (apply s_s; exact rfl)
    | (apply s_c TY; exact rfl; (first | omega | exact ⟨by omega, by (first | with_reducible assumption | ((with_reducible apply hitsF_ne); omega) | assumption)⟩))
    | (apply s_l TY; exact rfl; (first | exact rfl | with_reducible assumption | ((with_reducible apply hitsF_f0); omega) | ((with_reducible apply hitsF_f1); omega) | ((with_reducible apply hitsF_f2); omega) | assumption)))
    exact lv_ret (ret1 rfl (res_tmp rfl))
set_option maxRecDepth 100000 in
set_option maxHeartbeats 1600000 in
theorem slow_s (l : List Site) (r : Rule) (h : List Hit) (a : Nat) (hr : ruleErr r = 0) (ho : HitsOk l h) (ha : a < h.length) : Summ Tryz.prog GG 152 [.agg (ruleF r), .sl h.length (hitsF h), iv (a : Nat)] (.tup [iv ((slowV r h a).getD 0), bv (slowV r h a).isSome]) := by
  obtain ⟨r1, r2, r3, r4, r5, r6⟩ := ruleOk_of hr
  have h40 := ho.len
  obtain ⟨_, iI, hiI, hzI, _⟩ := slE_spec ((TY.ok 50).sl (3, 1, 8) rfl)
  refine summW Tryz.func152 rfl rfl 72 rfl (by simp) (fun M0 => ?_)
  repeat (first
    | (apply s_buildA TY Tryz.underlying206 hiI hzI; exact rfl; exact rfl; exact rfl; exact rfl; exact rfl)
    | (apply s_a TY; exact rfl)
    | apply w_seq
    | apply w_region
    | apply s_nil
    | apply t_norm
    | apply w_block)
  apply w_loop (fun q : Nat => ⟨(Ab.upd (Ab.upd (Ab.upd (Ab.upd (Ab.upd (Ab.upd (Ab.upd (fun _ => .bot) 2 (.f (iv (a : Nat)))) 3 (.f (.pt (ruleF r) 0))) 4 (.f (.pt [.sl h.length (hitsF h)] 0))) 8 (.f (iv ((accW r h a (q : Nat)).getD 0)))) 9 (.f (.v (.bool (accW r h a (q : Nat)).isSome)))) 20 (.f (.agg [iv 1, iv (-1)]))) 21 (.f (iv (q : Nat)))), (fun _ => none), 0⟩) (fun q => q ≤ 2) (fun q => 2 - q) 0 (Nat.zero_le _) (gh_le ⟨le_upd rfl trivial (le_upd rfl trivial (le_upd rfl trivial (le_upd rfl trivial (le_upd rfl trivial (le_upd rfl trivial (le_upd rfl trivial (le_nil _))))))), le_h0 _ _⟩)
  intro q hq
  by_cases hc : q < 2
  · have hW : ([iv 1, iv (-1)] : List FV)[((q : Nat) : Int).toNat]? = some (iv (wayI q)) := by
      have : q = 0 ∨ q = 1 := by omega
      rcases this with rfl | rfl <;> rfl
    have hw : -1 ≤ wayI q ∧ wayI q ≤ 1 := by unfold wayI; split <;> omega
    repeat (first
    | (apply s_index TY Tryz.underlying206; exact rfl; exact rfl; exact rfl; exact rfl; exact rfl; exact ⟨by omega, by omega⟩; exact hW)
    | (apply s_a TY; exact rfl)
    | (apply s_t; exact rfl; (first | assumption | omega))
    | apply w_seq
    | apply w_region
    | apply s_nil
    | apply t_norm
    | apply w_block
    | apply w_skip
    | (apply w_condT; exact rfl; exact rfl)
    | (apply s_c TY; exact rfl; (first | omega | exact ⟨by omega, by (first | with_reducible assumption | ((with_reducible apply hitsF_ne); omega) | ((with_reducible apply intsF_ne); omega) | assumption)⟩))
    | (apply s_alloc TY; exact rfl; exact rfl; exact rfl)
    | (apply s_store TY; exact rfl; exact rfl; exact rfl; exact rfl; exact rfl; exact rfl))
    apply w_loop (fun m : Nat => ⟨(Ab.upd (Ab.upd (Ab.upd (Ab.upd (Ab.upd (Ab.upd (Ab.upd (Ab.upd (Ab.upd (Ab.upd (Ab.upd (fun _ => .bot) 2 (.f (iv (a : Nat)))) 3 (.f (.pt (ruleF r) 0))) 4 (.f (.pt [.sl h.length (hitsF h)] 0))) 8 (.f (iv ((accW r h a q).getD 0)))) 9 (.f (.v (.bool (accW r h a q).isSome)))) 11 (.f (.pt [iv (wayI q)] 0))) 12 (.f (.sl (layL r h (wayI q) a (m : Nat)).length (intsF (natsL (layL r h (wayI q) a (m : Nat))))))) 20 (.f (.agg [iv 1, iv (-1)]))) 21 (.f (iv (q : Nat)))) 28 (.f (iv (r.count - 1)))) 29 (.f (iv (m : Nat)))), (fun _ => none), 0⟩) (fun m => m ≤ (r.count - 1).toNat) (fun m => (r.count - 1).toNat - m) 0 (Nat.zero_le _) (gh_trans (gh_box 0 (cs := [iv (wayI q)]) rfl rfl) (gh_le ⟨le_upd rfl trivial (le_upd rfl trivial (le_upd rfl trivial (le_upd rfl trivial (le_upd rfl trivial (le_upd rfl trivial (le_upd rfl trivial (le_upd rfl trivial (le_upd rfl trivial (le_upd rfl trivial (le_upd rfl trivial (le_nil _))))))))))), le_h0 _ _⟩))
    intro m hm
    by_cases hcm : m < (r.count - 1).toNat
    · have hll := layL_len (r := r) (way := wayI q) ha m
      repeat (first
    | (apply s_a TY; exact rfl)
    | (apply s_t; exact rfl; (first | assumption | omega))
    | apply w_seq
    | apply w_region
    | apply s_nil
    | apply t_norm
    | apply w_block
    | apply w_skip
    | (apply w_condT; exact rfl; exact rfl))
      apply w_gh (gh_own 13 3 1 rfl rfl)
      apply w_loop (fun k : Nat => ⟨(Ab.upd (Ab.upd (Ab.upd (Ab.upd (Ab.upd (Ab.upd (Ab.upd (Ab.upd (Ab.upd (Ab.upd (Ab.upd (Ab.upd (Ab.upd (Ab.upd (Ab.upd (fun _ => .bot) 2 (.f (iv (a : Nat)))) 3 (.f (.pt (ruleF r) 0))) 4 (.f (.pt [.sl h.length (hitsF h)] 0))) 8 (.f (iv ((accW r h a q).getD 0)))) 9 (.f (.v (.bool (accW r h a q).isSome)))) 11 (.f (.pt [iv (wayI q)] 0))) 12 (.f (.sl (layL r h (wayI q) a (m : Nat)).length (intsF (natsL (layL r h (wayI q) a (m : Nat))))))) 20 (.f (.agg [iv 1, iv (-1)]))) 21 (.f (iv (q : Nat)))) 28 (.f (iv (r.count - 1)))) 29 (.f (iv (m : Nat)))) 13 (.ow 0)) 31 (.f (.sl h.length (hitsF h)))) 32 (.f (iv h.length))) 33 (.f (iv (k : Nat)))), (Ab.upd (fun _ => none) 0 (some (.row 3 1 (nextL r h (wayI q) (layL r h (wayI q) a m) (k : Nat)).length (intsF (natsL (nextL r h (wayI q) (layL r h (wayI q) a m) (k : Nat))))))), 1⟩) (fun k => k ≤ h.length) (fun k => h.length - k) 0 (Nat.zero_le _) (gh_le ⟨le_upd rfl trivial (le_upd rfl trivial (le_upd rfl trivial (le_upd rfl rfl (le_upd rfl trivial (le_upd rfl trivial (le_upd rfl trivial (le_upd rfl trivial (le_upd rfl trivial (le_upd rfl trivial (le_upd rfl trivial (le_upd rfl trivial (le_upd rfl trivial (le_upd rfl trivial (le_upd rfl trivial (le_nil _))))))))))))))), le_hupd rfl trivial (le_h0 _ _)⟩)
      intro k hk
      by_cases hck : k < h.length
      · have hs := nextL_succ r h (wayI q) (layL r h (wayI q) a m) k
        have HC := idxIC_s (natsL (layL r h (wayI q) a m)) 164 [.pt (hitF h[k]) 0, .pt [.sl h.length (hitsF h)] 0, .pt [iv (wayI q)] 0, .pt (ruleF r) 0] (fun j => folB r h (wayI q) ((layL r h (wayI q) a m).getD j 0) k) (by rw [natsL_len]; omega) (fun j hj => by
          have hj' : j < (layL r h (wayI q) a m).length := by rw [← natsL_len]; exact hj
          have hlt := layL_lt ha (List.getElem_mem hj')
          rw [natsL_at hj, show (layL r h (wayI q) a m).getD j 0 = (layL r h (wayI q) a m)[j] by simp [List.getD_eq_getElem?_getD, List.getElem?_eq_getElem hj']]
          exact follows_s l r h (wayI q) _ k hlt hck hw (ho.hit _ hlt) (ho.hit k hck))
        rw [anyP_any _ (fun i => folB r h (wayI q) i k), natsL_len] at HC
        cases hy : (layL r h (wayI q) a m).any fun i => folB r h (wayI q) i k with
        | true =>
          rw [hy] at HC
          rw [if_pos hy] at hs
          have hnl : (nextL r h (wayI q) (layL r h (wayI q) a m) k).length ≤ k := Nat.le_trans (List.length_filter_le _ _) (by simp)
          repeat (first
    | (refine s_ghost rfl (gh_box 1 (cs := hitF h[k]) rfl rfl) ?_)
    | (apply s_append TY; exact rfl; exact rfl; exact rfl; exact rfl; exact rfl; exact rfl; exact rfl; exact rfl; exact rfl; (unfold maxLen; omega); omega)
    | (apply s_a TY; exact rfl)
    | (apply s_makefn; exact rfl; exact rfl)
    | (apply s_t; exact rfl; (first | assumption | omega))
    | apply w_seq
    | apply w_region
    | apply s_nil
    | apply t_norm
    | apply k_norm
    | apply w_block
    | apply w_skip
    | (apply w_condT; exact rfl; exact rfl)
    | (apply s_k (HC); exact rfl)
    | (apply s_c TY; exact rfl; (first | omega | exact ⟨by omega, by (first | with_reducible assumption | ((with_reducible apply hitsF_ne); omega) | ((with_reducible apply intsF_ne); omega) | assumption)⟩))
    | (apply s_m TY; exact rfl; (first | with_reducible assumption | ((with_reducible apply hitsF_sub); omega) | exact rfl); exact rfl)
    | (apply s_alloc TY; exact rfl; exact rfl; exact rfl)
    | (apply s_store TY; exact rfl; exact rfl; exact rfl; exact rfl; exact rfl; exact rfl))
          exact ⟨k + 1, by omega, by omega, gh_le ⟨le_upd rfl trivial (le_upd rfl trivial (le_upd rfl trivial (le_upd rfl rfl (le_upd rfl trivial (le_upd rfl trivial (le_upd rfl trivial (le_upd rfl trivial (le_upd rfl trivial (le_upd rfl trivial (le_upd rfl trivial (le_upd rfl trivial (le_upd rfl trivial (le_upd rfl trivial (le_upd rfl trivial (le_nil _))))))))))))))), le_hupd ((congrArg (fun M : List Nat => some (Blk.row 3 1 M.length (intsF (natsL M)))) hs).trans (row_appN _ _)).symm trivial (le_h0 _ _)⟩⟩
        | false =>
          rw [hy] at HC
          rw [if_neg (by rw [hy]; decide), List.append_nil] at hs
          repeat (first
    | (refine s_ghost rfl (gh_box 1 (cs := hitF h[k]) rfl rfl) ?_)
    | (apply s_a TY; exact rfl)
    | (apply s_makefn; exact rfl; exact rfl)
    | (apply s_t; exact rfl; (first | assumption | omega))
    | apply w_seq
    | apply w_region
    | apply s_nil
    | apply t_norm
    | apply k_norm
    | apply w_block
    | apply w_skip
    | (apply w_condT; exact rfl; exact rfl)
    | (apply w_condF; exact rfl; exact rfl)
    | (apply s_k (HC); exact rfl)
    | (apply s_c TY; exact rfl; (first | omega | exact ⟨by omega, by (first | with_reducible assumption | ((with_reducible apply hitsF_ne); omega) | ((with_reducible apply intsF_ne); omega) | assumption)⟩))
    | (apply s_m TY; exact rfl; (first | with_reducible assumption | ((with_reducible apply hitsF_sub); omega) | exact rfl); exact rfl)
    | (apply s_alloc TY; exact rfl; exact rfl; exact rfl)
    | (apply s_store TY; exact rfl; exact rfl; exact rfl; exact rfl; exact rfl; exact rfl))
          exact ⟨k + 1, by omega, by omega, gh_le ⟨le_upd rfl trivial (le_upd rfl trivial (le_upd rfl trivial (le_upd rfl rfl (le_upd rfl trivial (le_upd rfl trivial (le_upd rfl trivial (le_upd rfl trivial (le_upd rfl trivial (le_upd rfl trivial (le_upd rfl trivial (le_upd rfl trivial (le_upd rfl trivial (le_upd rfl trivial (le_upd rfl trivial (le_nil _))))))))))))))), le_hupd (congrArg (fun M : List Nat => some (Blk.row 3 1 M.length (intsF (natsL M)))) hs).symm trivial (le_h0 _ _)⟩⟩
      · have hke : k = h.length := by omega
        subst hke
        repeat (first
    | (apply s_a TY; exact rfl)
    | (apply s_f; exact rfl; (first | assumption | omega))
    | apply w_seq
    | apply w_region
    | apply s_nil
    | apply t_norm
    | apply t_exit
    | apply k_hit
    | apply k_norm
    | apply w_exit
    | (apply w_condF; exact rfl; exact rfl)
    | (apply s_c TY; exact rfl; (first | omega | exact ⟨by omega, by (first | with_reducible assumption | ((with_reducible apply hitsF_ne); omega) | ((with_reducible apply intsF_ne); omega) | assumption)⟩)))
        exact ⟨m + 1, by omega, by omega, gh_trans (gh_row 0 rfl) (gh_le ⟨le_upd rfl trivial (le_upd rfl trivial (le_upd rfl trivial (le_upd rfl trivial (le_upd rfl trivial (le_upd rfl trivial (le_upd rfl trivial (le_upd rfl trivial (le_upd rfl trivial (le_upd rfl trivial (le_upd rfl trivial (le_nil _))))))))))), le_h0 _ _⟩)⟩
    · have hme : m = (r.count - 1).toNat := by omega
      subst hme
      have hll := layL_len (r := r) (way := wayI q) ha (r.count - 1).toNat
      repeat (first
    | (apply s_a TY; exact rfl)
    | (apply s_f; exact rfl; (first | assumption | omega))
    | apply w_seq
    | apply w_region
    | apply s_nil
    | apply t_norm
    | apply t_exit
    | apply k_hit
    | apply w_block
    | apply w_exit
    | (apply w_condF; exact rfl; exact rfl))
      apply w_loop (fun j : Nat => ⟨(Ab.upd (Ab.upd (Ab.upd (Ab.upd (Ab.upd (Ab.upd (Ab.upd (Ab.upd (Ab.upd (Ab.upd (fun _ => .bot) 2 (.f (iv (a : Nat)))) 3 (.f (.pt (ruleF r) 0))) 4 (.f (.pt [.sl h.length (hitsF h)] 0))) 8 (.f (iv ((endA h (accW r h a q) ((layL r h (wayI q) a (r.count - 1).toNat).take (j : Nat))).getD 0)))) 9 (.f (.v (.bool (endA h (accW r h a q) ((layL r h (wayI q) a (r.count - 1).toNat).take (j : Nat))).isSome)))) 20 (.f (.agg [iv 1, iv (-1)]))) 21 (.f (iv (q : Nat)))) 49 (.f (.sl (layL r h (wayI q) a (r.count - 1).toNat).length (intsF (natsL (layL r h (wayI q) a (r.count - 1).toNat)))))) 50 (.f (iv (layL r h (wayI q) a (r.count - 1).toNat).length))) 51 (.f (iv (j : Nat)))), (fun _ => none), 0⟩) (fun j => j ≤ (layL r h (wayI q) a (r.count - 1).toNat).length) (fun j => (layL r h (wayI q) a (r.count - 1).toNat).length - j) 0 (Nat.zero_le _) (gh_le ⟨le_upd rfl trivial (le_upd rfl trivial (le_upd rfl trivial (le_upd rfl trivial (le_upd rfl trivial (le_upd rfl trivial (le_upd rfl trivial (le_upd rfl trivial (le_upd rfl trivial (le_upd rfl trivial (le_nil _)))))))))), le_h0 _ _⟩)
      intro j hj
      by_cases hcj : j < (layL r h (wayI q) a (r.count - 1).toNat).length
      · have hlt := layL_lt ha (List.getElem_mem hcj)
        have hel : (natsL (layL r h (wayI q) a (r.count - 1).toNat))[j]'(by rw [natsL_len]; exact hcj) = (((layL r h (wayI q) a (r.count - 1).toNat)[j] : Nat) : Int) := natsL_at _
        have het := endA_take (h := h) (acc := accW r h a q) hcj
        rw [getD_at hlt] at het
        have hij : (intsF (natsL (layL r h (wayI q) a (r.count - 1).toNat)))[j * 1]? = some (iv (((layL r h (wayI q) a (r.count - 1).toNat)[j] : Nat) : Int)) := by rw [intsF_at (by rw [natsL_len]; exact hcj), hel]
        have hne : intsF (natsL (layL r h (wayI q) a (r.count - 1).toNat)) ≠ [] := intsF_ne (k := j) (by rw [natsL_len]; exact hcj)
        revert het
        cases hA : endA h (accW r h a q) ((layL r h (wayI q) a (r.count - 1).toNat).take j) with
        | none =>
          intro het
          repeat (first
    | (apply s_a TY; exact rfl)
    | (apply s_t; exact rfl; (first | assumption | omega))
    | apply w_seq
    | apply w_region
    | apply s_nil
    | apply t_norm
    | apply k_norm
    | apply w_block
    | apply w_skip
    | (apply w_condT; exact rfl; exact rfl)
    | (apply s_s; exact rfl)
    | (apply s_c TY; exact rfl; (first | omega | exact ⟨by omega, by (first | with_reducible assumption | ((with_reducible apply hitsF_ne); omega) | ((with_reducible apply intsF_ne); omega) | assumption)⟩))
    | (apply s_l TY; exact rfl; (first | exact rfl | with_reducible assumption | ((with_reducible apply hitsF_f0); omega) | ((with_reducible apply hitsF_f1); omega) | ((with_reducible apply hitsF_f2); omega) | ((with_reducible apply intsF_at); omega) | assumption)))
          exact ⟨j + 1, by omega, by omega, gh_le ⟨le_upd rfl trivial (le_upd rfl trivial (le_upd rfl trivial (le_upd rfl trivial (le_upd rfl trivial (le_upd (congrArg (fun o : Option Int => AV.f (.v (.bool o.isSome))) het) trivial (le_upd (congrArg (fun o : Option Int => AV.f (iv (o.getD 0))) het) trivial (le_upd rfl trivial (le_upd rfl trivial (le_upd rfl trivial (le_nil _)))))))))), le_h0 _ _⟩⟩
        | some e =>
          intro het
          by_cases hlte : h[(layL r h (wayI q) a (r.count - 1).toNat)[j]].tm < e
          · rw [show minA (some e) h[(layL r h (wayI q) a (r.count - 1).toNat)[j]].tm = some h[(layL r h (wayI q) a (r.count - 1).toNat)[j]].tm by unfold minA; simp only [if_pos hlte]] at het
            repeat (first
    | (apply s_a TY; exact rfl)
    | (apply s_t; exact rfl; (first | assumption | omega))
    | apply w_seq
    | apply w_region
    | apply s_nil
    | apply t_norm
    | apply k_norm
    | apply w_block
    | apply w_skip
    | (apply w_condT; exact rfl; exact rfl)
    | (apply s_c TY; exact rfl; (first | omega | exact ⟨by omega, by (first | with_reducible assumption | ((with_reducible apply hitsF_ne); omega) | ((with_reducible apply intsF_ne); omega) | assumption)⟩))
    | (apply s_l TY; exact rfl; (first | exact rfl | with_reducible assumption | ((with_reducible apply hitsF_f0); omega) | ((with_reducible apply hitsF_f1); omega) | ((with_reducible apply hitsF_f2); omega) | ((with_reducible apply intsF_at); omega) | assumption)))
            exact ⟨j + 1, by omega, by omega, gh_le ⟨le_upd rfl trivial (le_upd rfl trivial (le_upd rfl trivial (le_upd rfl trivial (le_upd rfl trivial (le_upd (congrArg (fun o : Option Int => AV.f (.v (.bool o.isSome))) het) trivial (le_upd (congrArg (fun o : Option Int => AV.f (iv (o.getD 0))) het) trivial (le_upd rfl trivial (le_upd rfl trivial (le_upd rfl trivial (le_nil _)))))))))), le_h0 _ _⟩⟩
          · rw [show minA (some e) h[(layL r h (wayI q) a (r.count - 1).toNat)[j]].tm = some e by unfold minA; simp only [if_neg hlte]] at het
            repeat (first
    | (apply s_a TY; exact rfl)
    | (apply s_t; exact rfl; (first | assumption | omega))
    | (apply s_f; exact rfl; (first | assumption | omega))
    | apply w_seq
    | apply w_region
    | apply s_nil
    | apply t_norm
    | apply k_norm
    | apply w_block
    | apply w_skip
    | (apply w_condT; exact rfl; exact rfl)
    | (apply w_condF; exact rfl; exact rfl)
    | (apply s_c TY; exact rfl; (first | omega | exact ⟨by omega, by (first | with_reducible assumption | ((with_reducible apply hitsF_ne); omega) | ((with_reducible apply intsF_ne); omega) | assumption)⟩))
    | (apply s_l TY; exact rfl; (first | exact rfl | with_reducible assumption | ((with_reducible apply hitsF_f0); omega) | ((with_reducible apply hitsF_f1); omega) | ((with_reducible apply hitsF_f2); omega) | ((with_reducible apply intsF_at); omega) | assumption)))
            exact ⟨j + 1, by omega, by omega, gh_le ⟨le_upd rfl trivial (le_upd rfl trivial (le_upd rfl trivial (le_upd rfl trivial (le_upd rfl trivial (le_upd (congrArg (fun o : Option Int => AV.f (.v (.bool o.isSome))) het) trivial (le_upd (congrArg (fun o : Option Int => AV.f (iv (o.getD 0))) het) trivial (le_upd rfl trivial (le_upd rfl trivial (le_upd rfl trivial (le_nil _)))))))))), le_h0 _ _⟩⟩
      · have hje : j = (layL r h (wayI q) a (r.count - 1).toNat).length := by omega
        subst hje
        have het : endA h (accW r h a q) ((layL r h (wayI q) a (r.count - 1).toNat).take (layL r h (wayI q) a (r.count - 1).toNat).length) = accW r h a (q + 1) := by rw [List.take_length]; rfl
        repeat (first
    | (apply s_a TY; exact rfl)
    | (apply s_f; exact rfl; (first | assumption | omega))
    | apply w_seq
    | apply w_region
    | apply s_nil
    | apply t_norm
    | apply t_exit
    | apply k_hit
    | apply k_norm
    | apply w_exit
    | (apply w_condF; exact rfl; exact rfl)
    | (apply s_c TY; exact rfl; (first | omega | exact ⟨by omega, by (first | with_reducible assumption | ((with_reducible apply hitsF_ne); omega) | ((with_reducible apply intsF_ne); omega) | assumption)⟩)))
        exact ⟨q + 1, by omega, by omega, gh_le ⟨le_upd rfl trivial (le_upd rfl trivial (le_upd (congrArg (fun o : Option Int => AV.f (.v (.bool o.isSome))) het).symm trivial (le_upd (congrArg (fun o : Option Int => AV.f (iv (o.getD 0))) het).symm trivial (le_upd rfl trivial (le_upd rfl trivial (le_upd rfl trivial (le_nil _))))))), le_h0 _ _⟩⟩
  · have hqe : q = 2 := by omega
    subst hqe
    repeat (first
    | (apply s_a TY; exact rfl)
    | (apply s_f; exact rfl; (first | assumption | omega))
    | apply w_seq
    | apply w_region
    | apply s_nil
    | apply t_norm
    | apply t_exit
    | apply k_hit
    | apply w_exit
    | apply w_ret
    | (apply w_condF; exact rfl; exact rfl))
    exact lv_ret (ret2 rfl (res_tmp rfl) (res_tmp rfl))
end Go.Proofs.YtdmdpkoapllkkaaGreat
namespace Go.Proofs.YtdmdpkoapllkkaaGreat
open Go Go.RowKit Go.Proofs Go.Shelf Go.Ab
def fireL (nr : Hit → Bool) (t0 w : Int) : Int → List Hit → Option Int
  | _, [] => none
  | left, x :: rest => if w < x.tm - t0 then none else if (if nr x then left - 1 else left) = 0 then some x.tm else fireL nr t0 w (if nr x then left - 1 else left) rest
def fireV (l : List Site) (r : Rule) (h : List Hit) (a : Nat) : Option Int :=
  if r.kind = 3 then slowV r h a else fireL (nearB l r (h.getD a default)) (h.getD a default).tm r.window r.count (h.drop a)
def firesV (l : List Site) (r : Rule) (h : List Hit) (n : Nat) : List Fire := (List.range n).filterMap fun i => (fireV l r h i).map fun e => ⟨i, (h.getD i default).tm, e⟩
theorem firesV_succ (l : List Site) (r : Rule) (h : List Hit) (n : Nat) : firesV l r h (n + 1) = firesV l r h n ++ (match fireV l r h n with | some e => [⟨n, (h.getD n default).tm, e⟩] | none => []) := by
  unfold firesV
  rw [List.range_succ, List.filterMap_append]
  congr 1
  cases hf : fireV l r h n with
  | none => simp [hf]
  | some e => simp [hf]
theorem firesV_len (l : List Site) (r : Rule) (h : List Hit) (n : Nat) : (firesV l r h n).length ≤ n := Nat.le_trans (List.length_filterMap_le _ _) (by simp)
theorem slF_eq {n m : Nat} {x y : List FV} (h1 : n = m) (h2 : x = y) : AV.f (.sl n x) = .f (.sl m y) := by rw [h1, h2]
set_option maxRecDepth 100000 in
set_option maxHeartbeats 1600000 in
theorem fire_s (l : List Site) (r : Rule) (h : List Hit) (a : Nat) (hr : ruleErr r = 0) (hl0 : ArrOk l) (ho : HitsOk l h) (ha : a < h.length) : Summ Tryz.prog GG 120 [arrayV l, .agg (ruleF r), .sl h.length (hitsF h), iv (a : Nat)] (.tup [iv ((fireV l r h a).getD 0), bv (fireV l r h a).isSome]) := by
  obtain ⟨r1, r2, r3, r4, r5, r6⟩ := ruleOk_of hr
  have h40 := ho.len
  by_cases hk3 : r.kind = 3
  · rw [show fireV l r h a = slowV r h a by unfold fireV; rw [if_pos hk3]]
    have HS := slow_s l r h a hr ho ha
    refine summW Tryz.func120 rfl rfl 58 rfl (by simp) (fun M0 => ?_)
    repeat (first
    | (apply s_a TY; exact rfl)
    | (apply s_t; exact rfl; (first | assumption | omega))
    | apply w_seq
    | apply w_region
    | apply s_nil
    | apply t_norm
    | apply t_ret
    | apply w_ret
    | (apply w_condT; exact rfl; exact rfl)
    | (apply s_k (HS); exact rfl))
    exact lv_ret (ret2 rfl (res_tmp rfl) (res_tmp rfl))
  · have hfv : fireV l r h a = fireL (nearB l r h[a]) h[a].tm r.window r.count (h.drop a) := by unfold fireV; rw [if_neg hk3, getD_at ha]
    rw [hfv]
    have hdl : (h.drop a).length = h.length - a := by simp
    have hdn : ((((h.length : Nat) : Int)).toNat - ((a : Nat) : Int).toNat) = (h.drop a).length := by simp
    have hds : ((hitsF h).drop (((a : Nat) : Int).toNat * 3)).take (((((h.length : Nat) : Int)).toNat - ((a : Nat) : Int).toNat) * 3) = hitsF (h.drop a) := by
      rw [Int.toNat_natCast, Int.toNat_natCast, hitsF_drop, ← hdl, List.take_of_length_le (by rw [hitsF_len]; exact Nat.le_refl _)]
    have hta := (ho.hit a ha).tm
    refine summW Tryz.func120 rfl rfl 58 rfl (by simp) (fun M0 => ?_)
    repeat (first
    | (apply s_a TY; exact rfl)
    | (apply s_f; exact rfl; (first | assumption | omega))
    | apply w_seq
    | apply w_region
    | apply s_nil
    | apply t_norm
    | apply w_block
    | apply w_skip
    | (apply w_condF; exact rfl; exact rfl)
    | (apply s_slice TY; exact rfl; exact rfl; exact rfl; (first | exact rfl | exact ⟨_, rfl⟩); (first | exact rfl | exact ⟨_, rfl⟩); omega; omega; omega))
    apply w_loop (fun p : Nat × Int => ⟨(Ab.upd (Ab.upd (Ab.upd (Ab.upd (Ab.upd (Ab.upd (Ab.upd (Ab.upd (fun _ => .bot) 2 (.f (.sl h.length (hitsF h)))) 3 (.f (iv (a : Nat)))) 4 (.f (.pt [.sl l.length (sitesF l), .mp (mapS l l.length)] 0))) 5 (.f (.pt (ruleF r) 0))) 10 (.f (iv p.2))) 26 (.f (.sl (h.drop a).length (hitsF (h.drop a))))) 27 (.f (iv (h.drop a).length))) 28 (.f (iv (p.1 : Nat)))), (fun _ => none), 0⟩) (fun p => p.1 ≤ (h.drop a).length ∧ 1 ≤ p.2 ∧ p.2 ≤ 40 ∧ fireL (nearB l r h[a]) h[a].tm r.window r.count (h.drop a) = fireL (nearB l r h[a]) h[a].tm r.window p.2 ((h.drop a).drop p.1)) (fun p => (h.drop a).length - p.1) (0, r.count) (⟨Nat.zero_le _, by omega, by omega, by simp⟩) (gh_le ⟨le_upd rfl trivial (le_upd (congrArg (fun n : Nat => AV.f (iv n)) hdn.symm) trivial (le_upd (slF_eq hdn.symm hds.symm) trivial (le_upd rfl trivial (le_upd rfl trivial (le_upd rfl trivial (le_upd rfl trivial (le_upd rfl trivial (le_nil _)))))))), le_h0 _ _⟩)
    intro ⟨k, lf⟩ ⟨hk, hlf1, hlf2, hinv⟩
    simp only at hk hlf1 hlf2 hinv
    by_cases hc : k < (h.drop a).length
    · have hak : a + k < h.length := by omega
      have hel : (h.drop a)[k] = h[a + k] := by simp
      have htk := (ho.hit (a + k) hak).tm
      have hld : ((hitsF (h.drop a)).drop (k * 3)).take 3 = hitF h[a + k] := by rw [hitsF_sub hc, hel]
      have hne : hitsF (h.drop a) ≠ [] := hitsF_ne hc
      have hdk : (h.drop a).drop k = h[a + k] :: (h.drop a).drop (k + 1) := by rw [List.drop_eq_getElem_cons hc, hel]
      rw [hdk] at hinv
      by_cases hw : r.window < h[a + k].tm - h[a].tm
      · rw [hinv, show fireL (nearB l r h[a]) h[a].tm r.window lf (h[a + k] :: (h.drop a).drop (k + 1)) = none by unfold fireL; rw [if_pos hw]]
        repeat (first
    | (apply s_a TY; exact rfl)
    | (apply s_t; exact rfl; (first | assumption | omega))
    | apply w_seq
    | apply w_region
    | (apply w_draw (id := 7) 10 rfl (by kernel_rfl))
    | apply s_nil
    | apply t_norm
    | apply t_exit
    | apply k_hit
    | (apply k_miss; exact rfl)
    | apply w_block
    | apply w_exit
    | apply w_ret
    | apply w_skip
    | (apply w_condT; exact rfl; exact rfl)
    | (apply s_c TY; exact rfl; (first | omega | exact ⟨by omega, by (first | with_reducible assumption | ((with_reducible apply hitsF_ne); omega) | assumption)⟩))
    | (apply s_l TY; exact rfl; (first | exact rfl | with_reducible assumption | ((with_reducible apply hitsF_f0); omega) | ((with_reducible apply hitsF_f1); omega) | ((with_reducible apply hitsF_f2); omega) | assumption))
    | (apply s_m TY; exact rfl; (first | with_reducible assumption | ((with_reducible apply hitsF_sub); omega) | exact rfl); exact rfl)
    | (apply s_alloc TY; exact rfl; exact rfl; exact rfl)
    | (apply s_store TY; exact rfl; exact rfl; exact rfl; exact rfl; exact rfl; exact rfl))
        exact lv_ret (ret2 rfl (res_tmp rfl) (res_tmp rfl))
      · have HN := near_s l r h[a] h[a + k] hl0 hr (ho.hit a ha) (ho.hit (a + k) hak)
        have hfl : fireL (nearB l r h[a]) h[a].tm r.window lf (h[a + k] :: (h.drop a).drop (k + 1)) = if (if nearB l r h[a] h[a + k] then lf - 1 else lf) = 0 then some h[a + k].tm else fireL (nearB l r h[a]) h[a].tm r.window (if nearB l r h[a] h[a + k] then lf - 1 else lf) ((h.drop a).drop (k + 1)) := by rw [fireL, if_neg hw]
        cases hn : nearB l r h[a] h[a + k] with
        | true =>
          rw [hn] at HN hfl
          simp only [if_true] at hfl
          by_cases h0 : lf - 1 = 0
          · rw [hinv, hfl, if_pos h0]
            repeat (first
    | (apply s_a TY; exact rfl)
    | (apply s_t; exact rfl; (first | assumption | omega))
    | (apply s_f; exact rfl; (first | assumption | omega))
    | apply w_seq
    | apply w_region
    | (apply w_draw (id := 7) 10 rfl (by kernel_rfl))
    | (apply w_draw (id := 8) 7 rfl (by kernel_rfl))
    | apply s_nil
    | apply t_norm
    | apply t_ret
    | apply k_ret
    | apply w_block
    | apply w_ret
    | apply w_skip
    | (apply w_condT; exact rfl; exact rfl)
    | (apply w_condF; exact rfl; exact rfl)
    | (apply s_k (HN); exact rfl)
    | (apply s_c TY; exact rfl; (first | omega | exact ⟨by omega, by (first | with_reducible assumption | ((with_reducible apply hitsF_ne); omega) | assumption)⟩))
    | (apply s_l TY; exact rfl; (first | exact rfl | with_reducible assumption | ((with_reducible apply hitsF_f0); omega) | ((with_reducible apply hitsF_f1); omega) | ((with_reducible apply hitsF_f2); omega) | assumption))
    | (apply s_m TY; exact rfl; (first | with_reducible assumption | ((with_reducible apply hitsF_sub); omega) | exact rfl); exact rfl)
    | (apply s_alloc TY; exact rfl; exact rfl; exact rfl)
    | (apply s_store TY; exact rfl; exact rfl; exact rfl; exact rfl; exact rfl; exact rfl))
            exact lv_ret (ret2 rfl (res_tmp rfl) (res_tmp rfl))
          · rw [if_neg h0] at hfl
            repeat (first
    | (apply s_a TY; exact rfl)
    | (apply s_t; exact rfl; (first | assumption | omega))
    | (apply s_f; exact rfl; (first | assumption | omega))
    | apply w_seq
    | apply w_region
    | (apply w_draw (id := 7) 10 rfl (by kernel_rfl))
    | (apply w_draw (id := 8) 7 rfl (by kernel_rfl))
    | apply s_nil
    | apply t_norm
    | apply k_norm
    | apply w_block
    | apply w_skip
    | (apply w_condT; exact rfl; exact rfl)
    | (apply w_condF; exact rfl; exact rfl)
    | (apply s_k (HN); exact rfl)
    | (apply s_c TY; exact rfl; (first | omega | exact ⟨by omega, by (first | with_reducible assumption | ((with_reducible apply hitsF_ne); omega) | assumption)⟩))
    | (apply s_l TY; exact rfl; (first | exact rfl | with_reducible assumption | ((with_reducible apply hitsF_f0); omega) | ((with_reducible apply hitsF_f1); omega) | ((with_reducible apply hitsF_f2); omega) | assumption))
    | (apply s_m TY; exact rfl; (first | with_reducible assumption | ((with_reducible apply hitsF_sub); omega) | exact rfl); exact rfl)
    | (apply s_alloc TY; exact rfl; exact rfl; exact rfl)
    | (apply s_store TY; exact rfl; exact rfl; exact rfl; exact rfl; exact rfl; exact rfl))
            exact ⟨(k + 1, lf - 1), ⟨by show k + 1 ≤ _; omega, by show 1 ≤ lf - 1; omega, by show lf - 1 ≤ 40; omega, hinv.trans hfl⟩, by show _ - (k + 1) < _ - k; omega, gh_le ⟨le_upd rfl trivial (le_upd rfl trivial (le_upd rfl trivial (le_upd rfl trivial (le_upd rfl trivial (le_upd rfl trivial (le_upd rfl trivial (le_upd rfl trivial (le_nil _)))))))), le_h0 _ _⟩⟩
        | false =>
          rw [hn] at HN hfl
          simp only [Bool.false_eq_true, if_false] at hfl
          have h0 : ¬ lf = 0 := by omega
          rw [if_neg h0] at hfl
          repeat (first
    | (apply s_a TY; exact rfl)
    | (apply s_t; exact rfl; (first | assumption | omega))
    | (apply s_f; exact rfl; (first | assumption | omega))
    | apply w_seq
    | apply w_region
    | (apply w_draw (id := 7) 10 rfl (by kernel_rfl))
    | (apply w_draw (id := 8) 7 rfl (by kernel_rfl))
    | apply s_nil
    | apply t_norm
    | apply k_norm
    | apply w_block
    | apply w_skip
    | (apply w_condT; exact rfl; exact rfl)
    | (apply w_condF; exact rfl; exact rfl)
    | (apply s_k (HN); exact rfl)
    | (apply s_c TY; exact rfl; (first | omega | exact ⟨by omega, by (first | with_reducible assumption | ((with_reducible apply hitsF_ne); omega) | assumption)⟩))
    | (apply s_l TY; exact rfl; (first | exact rfl | with_reducible assumption | ((with_reducible apply hitsF_f0); omega) | ((with_reducible apply hitsF_f1); omega) | ((with_reducible apply hitsF_f2); omega) | assumption))
    | (apply s_m TY; exact rfl; (first | with_reducible assumption | ((with_reducible apply hitsF_sub); omega) | exact rfl); exact rfl)
    | (apply s_alloc TY; exact rfl; exact rfl; exact rfl)
    | (apply s_store TY; exact rfl; exact rfl; exact rfl; exact rfl; exact rfl; exact rfl))
          exact ⟨(k + 1, lf), ⟨by show k + 1 ≤ _; omega, hlf1, hlf2, hinv.trans hfl⟩, by show _ - (k + 1) < _ - k; omega, gh_le ⟨le_upd rfl trivial (le_upd rfl trivial (le_upd rfl trivial (le_upd rfl trivial (le_upd rfl trivial (le_upd rfl trivial (le_upd rfl trivial (le_upd rfl trivial (le_nil _)))))))), le_h0 _ _⟩⟩
    · rw [hinv, List.drop_of_length_le (show (h.drop a).length ≤ k by omega)]
      repeat (first
    | (apply s_a TY; exact rfl)
    | (apply s_f; exact rfl; (first | assumption | omega))
    | apply w_seq
    | apply w_region
    | apply s_nil
    | apply t_norm
    | apply t_exit
    | apply k_hit
    | apply w_exit
    | apply w_ret
    | (apply w_condF; exact rfl; exact rfl))
      exact lv_ret (ret2 rfl (res_tmp rfl) (res_tmp rfl))
theorem row_appFire (L : List Fire) (x : Fire) : some (Blk.row 110 3 (L ++ [x]).length (firesF (L ++ [x]))) = some (Blk.row 110 3 (L.length + 1) (firesF L ++ fireF x)) := by
  rw [firesF_snoc, List.length_append]; rfl
set_option maxRecDepth 100000 in
set_option maxHeartbeats 1600000 in
theorem fires_s (l : List Site) (r : Rule) (h : List Hit) (hr : ruleErr r = 0) (hl0 : ArrOk l) (ho : HitsOk l h) : Summ Tryz.prog GG 61 [arrayV l, .agg (ruleF r), .sl h.length (hitsF h)] (.sl (firesV l r h h.length).length (firesF (firesV l r h h.length))) := by
  have h40 := ho.len
  refine summW Tryz.func61 rfl rfl 39 rfl (by simp) (fun M0 => ?_)
  repeat (first
    | (apply s_a TY; exact rfl)
    | apply w_seq
    | apply w_region
    | apply s_nil
    | apply t_norm
    | apply w_block)
  apply w_gh (gh_own 7 110 3 rfl rfl)
  apply w_loop (fun k : Nat => ⟨(Ab.upd (Ab.upd (Ab.upd (Ab.upd (Ab.upd (Ab.upd (Ab.upd (fun _ => .bot) 2 (.f (.sl h.length (hitsF h)))) 3 (.f (.pt [.sl l.length (sitesF l), .mp (mapS l l.length)] 0))) 4 (.f (.pt (ruleF r) 0))) 7 (.ow 0)) 12 (.f (.sl h.length (hitsF h)))) 13 (.f (iv h.length))) 14 (.f (iv (k : Nat)))), (Ab.upd (fun _ => none) 0 (some (.row 110 3 (firesV l r h k).length (firesF (firesV l r h k))))), 1⟩) (fun k => k ≤ h.length) (fun k => h.length - k) 0 (Nat.zero_le _) (gh_le ⟨le_upd rfl trivial (le_upd rfl trivial (le_upd rfl trivial (le_upd rfl rfl (le_upd rfl trivial (le_upd rfl trivial (le_upd rfl trivial (le_nil _))))))), le_hupd rfl trivial (le_h0 _ _)⟩)
  intro k hk
  by_cases hc : k < h.length
  · have HF := fire_s l r h k hr hl0 ho hc
    have hs := firesV_succ l r h k
    have hln := firesV_len l r h k
    rw [getD_at hc] at hs
    cases hv : fireV l r h k with
    | none =>
      rw [hv] at HF hs
      simp only [List.append_nil] at hs
      repeat (first
    | (apply s_a TY; exact rfl)
    | (apply s_t; exact rfl; (first | assumption | omega))
    | apply w_seq
    | apply w_region
    | apply s_nil
    | apply t_norm
    | apply k_norm
    | apply w_block
    | apply w_skip
    | (apply w_condT; exact rfl; exact rfl)
    | (apply w_condF; exact rfl; exact rfl)
    | (apply s_k (HF); exact rfl)
    | (apply s_c TY; exact rfl; (first | omega | exact ⟨by omega, by (first | with_reducible assumption | ((with_reducible apply hitsF_ne); omega) | assumption)⟩))
    | (apply s_m TY; exact rfl; (first | with_reducible assumption | ((with_reducible apply hitsF_sub); omega) | exact rfl); exact rfl)
    | (apply s_alloc TY; exact rfl; exact rfl; exact rfl)
    | (apply s_store TY; exact rfl; exact rfl; exact rfl; exact rfl; exact rfl; exact rfl))
      exact ⟨k + 1, by omega, by omega, gh_le ⟨le_upd rfl trivial (le_upd rfl trivial (le_upd rfl trivial (le_upd rfl rfl (le_upd rfl trivial (le_upd rfl trivial (le_upd rfl trivial (le_nil _))))))), le_hupd (congrArg (fun M : List Fire => some (Blk.row 110 3 M.length (firesF M))) hs).symm trivial (le_h0 _ _)⟩⟩
    | some e =>
      rw [hv] at HF hs
      simp only at hs
      repeat (first
    | (apply s_append TY; exact rfl; exact rfl; exact rfl; exact rfl; exact rfl; exact rfl; exact rfl; exact rfl; exact rfl; (unfold maxLen; omega); omega)
    | (apply s_a TY; exact rfl)
    | (apply s_t; exact rfl; (first | assumption | omega))
    | apply w_seq
    | apply w_region
    | apply s_nil
    | apply t_norm
    | apply k_norm
    | apply w_block
    | apply w_skip
    | (apply w_condT; exact rfl; exact rfl)
    | (apply s_k (HF); exact rfl)
    | (apply s_c TY; exact rfl; (first | omega | exact ⟨by omega, by (first | with_reducible assumption | ((with_reducible apply hitsF_ne); omega) | assumption)⟩))
    | (apply s_m TY; exact rfl; (first | with_reducible assumption | ((with_reducible apply hitsF_sub); omega) | exact rfl); exact rfl)
    | (apply s_alloc TY; exact rfl; exact rfl; exact rfl)
    | (apply s_store TY; exact rfl; exact rfl; exact rfl; exact rfl; exact rfl; exact rfl))
      exact ⟨k + 1, by omega, by omega, gh_le ⟨le_upd rfl trivial (le_upd rfl trivial (le_upd rfl trivial (le_upd rfl rfl (le_upd rfl trivial (le_upd rfl trivial (le_upd rfl trivial (le_nil _))))))), le_hupd ((congrArg (fun M : List Fire => some (Blk.row 110 3 M.length (firesF M))) hs).trans (row_appFire _ _)).symm trivial (le_h0 _ _)⟩⟩
  · have hke : k = h.length := by omega
    subst hke
    repeat (first
    | (apply s_a TY; exact rfl)
    | (apply s_f; exact rfl; (first | assumption | omega))
    | apply w_seq
    | apply w_region
    | apply s_nil
    | apply t_norm
    | apply t_exit
    | apply k_hit
    | apply w_exit
    | apply w_ret
    | (apply w_condF; exact rfl; exact rfl))
    exact lv_ret (ret_gh (gh_row 0 rfl) (ret1 rfl (res_tmp rfl)))
theorem ruledErr_parts {l : List Site} {r : Rule} {h : List Hit} (e : ruledErr l r h = 0) : (arrChk l).2 = 0 ∧ ruleErr r = 0 ∧ (hitsChk l h).2 = 0 := by
  unfold ruledErr at e
  have h1 : (arrChk l).2 = 0 := Classical.byContradiction fun h1 => by rw [if_pos h1] at e; exact h1 e
  rw [if_neg (by simpa using h1)] at e
  have h2 : ruleErr r = 0 := Classical.byContradiction fun h2 => by rw [if_pos h2] at e; exact h2 e
  rw [if_neg (by simpa using h2)] at e
  exact ⟨h1, h2, e⟩
set_option maxRecDepth 100000 in
theorem FiresOf_ok (l : List Site) (r : Rule) (h : List Hit) (hl : l.length ≤ 1000000) (hh : h.length ≤ 1000000) (e : ruledErr l r h = 0) : Summ Tryz.prog GG 14 [arrF l, .agg (ruleF r), .sl h.length (hitsF h)] (.tup [.sl (firesV l r h h.length).length (firesF (firesV l r h h.length)), iv 0]) := by
  obtain ⟨e1, e2, e3⟩ := ruledErr_parts e
  have hl0 := arrOk_of e1
  have ho := hitsOk_of hl0 e3
  refine summW Tryz.func14 rfl rfl 24 rfl (by simp) (fun M0 => ?_)
  repeat (first
    | (apply s_a TY; exact rfl)
    | (apply s_t; exact rfl; (first | assumption | omega))
    | apply w_seq
    | apply w_region
    | apply s_nil
    | apply t_norm
    | apply w_ret
    | apply w_skip
    | (apply w_condF; exact rfl; exact rfl)
    | (apply s_k3 (openRule_ok _ _ _); exact rfl; (first | assumption | omega | decide); (first | assumption | omega | decide); (first | assumption | omega | decide))
    | (apply s_k3 (fires_s _ _ _); exact rfl; (first | assumption | omega | decide); (first | assumption | omega | decide); (first | assumption | omega | decide))
    | (apply s_alloc TY; exact rfl; exact rfl; exact rfl)
    | (apply s_store TY; exact rfl; exact rfl; exact rfl; exact rfl; exact rfl; exact rfl))
  exact lv_ret (ret2 rfl (res_tmp rfl) (res_tmp rfl))
end Go.Proofs.YtdmdpkoapllkkaaGreat
