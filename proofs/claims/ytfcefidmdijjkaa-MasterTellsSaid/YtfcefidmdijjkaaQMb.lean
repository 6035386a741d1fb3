/-
  Texts of one road, one behind the other.
-/
import Derived.Test.YtfcefidmdijjkaaQMa
import Derived.Test.YtfcefidmdijjkaaChecked
import Derived.Laws.IdiomStrings
import Derived.Laws.BitsAllLaws
/-
  Facts on the types and functions of this seat's program, written by wip/tys.py.
-/
set_option maxRecDepth 100000
namespace Go.Proofs
open Go.Sl
theorem Try.mix : Try.prog.follows .mixedOrders = true := by kernel_rfl
instance Try.tl2 : TL Try.prog 2 1 false := ⟨by kernel_rfl, by kernel_rfl⟩
instance Try.tb2 : TB Try.prog 2 8 := ⟨by kernel_rfl⟩
instance Try.tu2 : TU Try.prog 2 (.int .i64) := ⟨by kernel_rfl⟩
instance Try.tz2 : TZ Try.prog 2 [.int .i64 (0)] := TZ.of (by kernel_rfl)
instance Try.tl3 : TL Try.prog 3 1 false := ⟨by kernel_rfl, by kernel_rfl⟩
instance Try.tb3 : TB Try.prog 3 8 := ⟨by kernel_rfl⟩
instance Try.tu3 : TU Try.prog 3 (.int .i64) := ⟨by kernel_rfl⟩
instance Try.tz3 : TZ Try.prog 3 [.int .i64 (0)] := TZ.of (by kernel_rfl)
instance Try.tl4 : TL Try.prog 4 1 false := ⟨by kernel_rfl, by kernel_rfl⟩
instance Try.tb4 : TB Try.prog 4 1 := ⟨by kernel_rfl⟩
instance Try.tu4 : TU Try.prog 4 .bool := ⟨by kernel_rfl⟩
instance Try.tz4 : TZ Try.prog 4 [.bool false] := TZ.of (by kernel_rfl)
instance Try.tl5 : TL Try.prog 5 1 false := ⟨by kernel_rfl, by kernel_rfl⟩
instance Try.tb5 : TB Try.prog 5 1 := ⟨by kernel_rfl⟩
instance Try.tu5 : TU Try.prog 5 (.int .u8) := ⟨by kernel_rfl⟩
instance Try.tz5 : TZ Try.prog 5 [.int .u8 (0)] := TZ.of (by kernel_rfl)
instance Try.tl6 : TL Try.prog 6 1 false := ⟨by kernel_rfl, by kernel_rfl⟩
instance Try.tb6 : TB Try.prog 6 1 := ⟨by kernel_rfl⟩
instance Try.tu6 : TU Try.prog 6 (.int .u8) := ⟨by kernel_rfl⟩
instance Try.tz6 : TZ Try.prog 6 [.int .u8 (0)] := TZ.of (by kernel_rfl)
instance Try.tl7 : TL Try.prog 7 4 true := ⟨by kernel_rfl, by kernel_rfl⟩
instance Try.tb7 : TB Try.prog 7 24 := ⟨by kernel_rfl⟩
instance Try.tz7 : TZ Try.prog 7 [.int .i64 (0), .int .i64 (0), .bool false, .int .u8 (0)] := TZ.of (by kernel_rfl)
instance Try.tf7_0 : TF Try.prog 7 0 0 := TF.of (ft := 2) (k := 0) (by kernel_rfl)
instance Try.tg7_0 : TFt Try.prog 7 0 0 2 := TFt.of (k := 1) (by kernel_rfl)
instance Try.tf7_1 : TF Try.prog 7 1 1 := TF.of (ft := 3) (k := 0) (by kernel_rfl)
instance Try.tg7_1 : TFt Try.prog 7 1 1 3 := TFt.of (k := 1) (by kernel_rfl)
instance Try.tf7_2 : TF Try.prog 7 2 2 := TF.of (ft := 4) (k := 0) (by kernel_rfl)
instance Try.tg7_2 : TFt Try.prog 7 2 2 4 := TFt.of (k := 1) (by kernel_rfl)
instance Try.tf7_3 : TF Try.prog 7 3 3 := TF.of (ft := 6) (k := 0) (by kernel_rfl)
instance Try.tg7_3 : TFt Try.prog 7 3 3 6 := TFt.of (k := 1) (by kernel_rfl)
instance Try.tp7 : TP Try.prog 7 [(0, 1), (1, 1), (2, 1), (3, 1)] := TP.of (by kernel_rfl)
instance Try.tl8 : TL Try.prog 8 4 true := ⟨by kernel_rfl, by kernel_rfl⟩
instance Try.tb8 : TB Try.prog 8 24 := ⟨by kernel_rfl⟩
instance Try.tz8 : TZ Try.prog 8 [.int .i64 (0), .int .i64 (0), .bool false, .int .u8 (0)] := TZ.of (by kernel_rfl)
instance Try.tf8_0 : TF Try.prog 8 0 0 := TF.of (ft := 2) (k := 0) (by kernel_rfl)
instance Try.tg8_0 : TFt Try.prog 8 0 0 2 := TFt.of (k := 1) (by kernel_rfl)
instance Try.tf8_1 : TF Try.prog 8 1 1 := TF.of (ft := 3) (k := 0) (by kernel_rfl)
instance Try.tg8_1 : TFt Try.prog 8 1 1 3 := TFt.of (k := 1) (by kernel_rfl)
instance Try.tf8_2 : TF Try.prog 8 2 2 := TF.of (ft := 4) (k := 0) (by kernel_rfl)
instance Try.tg8_2 : TFt Try.prog 8 2 2 4 := TFt.of (k := 1) (by kernel_rfl)
instance Try.tf8_3 : TF Try.prog 8 3 3 := TF.of (ft := 6) (k := 0) (by kernel_rfl)
instance Try.tg8_3 : TFt Try.prog 8 3 3 6 := TFt.of (k := 1) (by kernel_rfl)
instance Try.tp8 : TP Try.prog 8 [(0, 1), (1, 1), (2, 1), (3, 1)] := TP.of (by kernel_rfl)
instance Try.tl9 : TL Try.prog 9 1 false := ⟨by kernel_rfl, by kernel_rfl⟩
instance Try.tb9 : TB Try.prog 9 16 := ⟨by kernel_rfl⟩
instance Try.tu9 : TU Try.prog 9 .string := ⟨by kernel_rfl⟩
instance Try.tz9 : TZ Try.prog 9 [.string ByteArray.empty] := TZ.of (by kernel_rfl)
instance Try.tl10 : TL Try.prog 10 1 false := ⟨by kernel_rfl, by kernel_rfl⟩
instance Try.tb10 : TB Try.prog 10 16 := ⟨by kernel_rfl⟩
instance Try.tu10 : TU Try.prog 10 .string := ⟨by kernel_rfl⟩
instance Try.tz10 : TZ Try.prog 10 [.string ByteArray.empty] := TZ.of (by kernel_rfl)
instance Try.tl11 : TL Try.prog 11 1 false := ⟨by kernel_rfl, by kernel_rfl⟩
instance Try.tb11 : TB Try.prog 11 16 := ⟨by kernel_rfl⟩
instance Try.tu11 : TU Try.prog 11 .string := ⟨by kernel_rfl⟩
instance Try.tz11 : TZ Try.prog 11 [.string ByteArray.empty] := TZ.of (by kernel_rfl)
instance Try.tl12 : TL Try.prog 12 1 false := ⟨by kernel_rfl, by kernel_rfl⟩
instance Try.tb12 : TB Try.prog 12 8 := ⟨by kernel_rfl⟩
instance Try.tu12 : TU Try.prog 12 (.int .u64) := ⟨by kernel_rfl⟩
instance Try.tz12 : TZ Try.prog 12 [.int .u64 (0)] := TZ.of (by kernel_rfl)
instance Try.tl13 : TL Try.prog 13 2 true := ⟨by kernel_rfl, by kernel_rfl⟩
instance Try.tb13 : TB Try.prog 13 24 := ⟨by kernel_rfl⟩
instance Try.tz13 : TZ Try.prog 13 [.string ByteArray.empty, .int .u64 (0)] := TZ.of (by kernel_rfl)
instance Try.tf13_0 : TF Try.prog 13 0 0 := TF.of (ft := 9) (k := 0) (by kernel_rfl)
instance Try.tg13_0 : TFt Try.prog 13 0 0 9 := TFt.of (k := 1) (by kernel_rfl)
instance Try.tf13_1 : TF Try.prog 13 1 1 := TF.of (ft := 12) (k := 0) (by kernel_rfl)
instance Try.tg13_1 : TFt Try.prog 13 1 1 12 := TFt.of (k := 1) (by kernel_rfl)
instance Try.tp13 : TP Try.prog 13 [(0, 1), (1, 1)] := TP.of (by kernel_rfl)
instance Try.tl14 : TL Try.prog 14 2 true := ⟨by kernel_rfl, by kernel_rfl⟩
instance Try.tb14 : TB Try.prog 14 24 := ⟨by kernel_rfl⟩
instance Try.tz14 : TZ Try.prog 14 [.string ByteArray.empty, .int .u64 (0)] := TZ.of (by kernel_rfl)
instance Try.tf14_0 : TF Try.prog 14 0 0 := TF.of (ft := 9) (k := 0) (by kernel_rfl)
instance Try.tg14_0 : TFt Try.prog 14 0 0 9 := TFt.of (k := 1) (by kernel_rfl)
instance Try.tf14_1 : TF Try.prog 14 1 1 := TF.of (ft := 12) (k := 0) (by kernel_rfl)
instance Try.tg14_1 : TFt Try.prog 14 1 1 12 := TFt.of (k := 1) (by kernel_rfl)
instance Try.tp14 : TP Try.prog 14 [(0, 1), (1, 1)] := TP.of (by kernel_rfl)
instance Try.tl15 : TL Try.prog 15 1 false := ⟨by kernel_rfl, by kernel_rfl⟩
instance Try.tb15 : TB Try.prog 15 8 := ⟨by kernel_rfl⟩
instance Try.tu15 : TU Try.prog 15 (.pointer 186) := ⟨by kernel_rfl⟩
instance Try.tz15 : TZ Try.prog 15 [.pointer none] := TZ.of (by kernel_rfl)
instance Try.tl16 : TL Try.prog 16 1 false := ⟨by kernel_rfl, by kernel_rfl⟩
instance Try.tb16 : TB Try.prog 16 8 := ⟨by kernel_rfl⟩
instance Try.tu16 : TU Try.prog 16 (.pointer 189) := ⟨by kernel_rfl⟩
instance Try.tz16 : TZ Try.prog 16 [.pointer none] := TZ.of (by kernel_rfl)
instance Try.tl17 : TL Try.prog 17 1 false := ⟨by kernel_rfl, by kernel_rfl⟩
instance Try.tb17 : TB Try.prog 17 8 := ⟨by kernel_rfl⟩
instance Try.tu17 : TU Try.prog 17 (.pointer 197) := ⟨by kernel_rfl⟩
instance Try.tz17 : TZ Try.prog 17 [.pointer none] := TZ.of (by kernel_rfl)
instance Try.tl18 : TL Try.prog 18 1 true := ⟨by kernel_rfl, by kernel_rfl⟩
instance Try.tb18 : TB Try.prog 18 8 := ⟨by kernel_rfl⟩
instance Try.tz18 : TZ Try.prog 18 [.pointer none] := TZ.of (by kernel_rfl)
instance Try.tf18_0 : TF Try.prog 18 0 0 := TF.of (ft := 17) (k := 0) (by kernel_rfl)
instance Try.tg18_0 : TFt Try.prog 18 0 0 17 := TFt.of (k := 1) (by kernel_rfl)
instance Try.tp18 : TP Try.prog 18 [(0, 1)] := TP.of (by kernel_rfl)
instance Try.tl19 : TL Try.prog 19 1 true := ⟨by kernel_rfl, by kernel_rfl⟩
instance Try.tb19 : TB Try.prog 19 8 := ⟨by kernel_rfl⟩
instance Try.tz19 : TZ Try.prog 19 [.pointer none] := TZ.of (by kernel_rfl)
instance Try.tf19_0 : TF Try.prog 19 0 0 := TF.of (ft := 17) (k := 0) (by kernel_rfl)
instance Try.tg19_0 : TFt Try.prog 19 0 0 17 := TFt.of (k := 1) (by kernel_rfl)
instance Try.tp19 : TP Try.prog 19 [(0, 1)] := TP.of (by kernel_rfl)
instance Try.tl21 : TL Try.prog 21 1 false := ⟨by kernel_rfl, by kernel_rfl⟩
instance Try.tb21 : TB Try.prog 21 4 := ⟨by kernel_rfl⟩
instance Try.tu21 : TU Try.prog 21 (.int .i32) := ⟨by kernel_rfl⟩
instance Try.tz21 : TZ Try.prog 21 [.int .i32 (0)] := TZ.of (by kernel_rfl)
instance Try.tl22 : TL Try.prog 22 4 true := ⟨by kernel_rfl, by kernel_rfl⟩
instance Try.tb22 : TB Try.prog 22 32 := ⟨by kernel_rfl⟩
instance Try.tz22 : TZ Try.prog 22 [.int .i64 (0), .int .i64 (0), .int .i64 (0), .int .i64 (0)] := TZ.of (by kernel_rfl)
instance Try.te22 : TE Try.prog 22 [.i, .i, .i, .i] := ⟨by kernel_rfl, by kernel_rfl, by kernel_rfl⟩
instance Try.tf22_0 : TF Try.prog 22 0 0 := TF.of (ft := 3) (k := 0) (by kernel_rfl)
instance Try.tg22_0 : TFt Try.prog 22 0 0 3 := TFt.of (k := 1) (by kernel_rfl)
instance Try.tf22_1 : TF Try.prog 22 1 1 := TF.of (ft := 3) (k := 0) (by kernel_rfl)
instance Try.tg22_1 : TFt Try.prog 22 1 1 3 := TFt.of (k := 1) (by kernel_rfl)
instance Try.tf22_2 : TF Try.prog 22 2 2 := TF.of (ft := 3) (k := 0) (by kernel_rfl)
instance Try.tg22_2 : TFt Try.prog 22 2 2 3 := TFt.of (k := 1) (by kernel_rfl)
instance Try.tf22_3 : TF Try.prog 22 3 3 := TF.of (ft := 3) (k := 0) (by kernel_rfl)
instance Try.tg22_3 : TFt Try.prog 22 3 3 3 := TFt.of (k := 1) (by kernel_rfl)
instance Try.tp22 : TP Try.prog 22 [(0, 1), (1, 1), (2, 1), (3, 1)] := TP.of (by kernel_rfl)
instance Try.tl23 : TL Try.prog 23 4 true := ⟨by kernel_rfl, by kernel_rfl⟩
instance Try.tb23 : TB Try.prog 23 32 := ⟨by kernel_rfl⟩
instance Try.tz23 : TZ Try.prog 23 [.int .i64 (0), .int .i64 (0), .int .i64 (0), .int .i64 (0)] := TZ.of (by kernel_rfl)
instance Try.te23 : TE Try.prog 23 [.i, .i, .i, .i] := ⟨by kernel_rfl, by kernel_rfl, by kernel_rfl⟩
instance Try.tf23_0 : TF Try.prog 23 0 0 := TF.of (ft := 3) (k := 0) (by kernel_rfl)
instance Try.tg23_0 : TFt Try.prog 23 0 0 3 := TFt.of (k := 1) (by kernel_rfl)
instance Try.tf23_1 : TF Try.prog 23 1 1 := TF.of (ft := 3) (k := 0) (by kernel_rfl)
instance Try.tg23_1 : TFt Try.prog 23 1 1 3 := TFt.of (k := 1) (by kernel_rfl)
instance Try.tf23_2 : TF Try.prog 23 2 2 := TF.of (ft := 3) (k := 0) (by kernel_rfl)
instance Try.tg23_2 : TFt Try.prog 23 2 2 3 := TFt.of (k := 1) (by kernel_rfl)
instance Try.tf23_3 : TF Try.prog 23 3 3 := TF.of (ft := 3) (k := 0) (by kernel_rfl)
instance Try.tg23_3 : TFt Try.prog 23 3 3 3 := TFt.of (k := 1) (by kernel_rfl)
instance Try.tp23 : TP Try.prog 23 [(0, 1), (1, 1), (2, 1), (3, 1)] := TP.of (by kernel_rfl)
instance Try.tl24 : TL Try.prog 24 1 false := ⟨by kernel_rfl, by kernel_rfl⟩
instance Try.tb24 : TB Try.prog 24 24 := ⟨by kernel_rfl⟩
instance Try.tu24 : TU Try.prog 24 (.slice 51) := ⟨by kernel_rfl⟩
instance Try.tz24 : TZ Try.prog 24 [.slice none 0 0] := TZ.of (by kernel_rfl)
instance Try.tl26 : TL Try.prog 26 1 false := ⟨by kernel_rfl, by kernel_rfl⟩
instance Try.tb26 : TB Try.prog 26 8 := ⟨by kernel_rfl⟩
instance Try.tu26 : TU Try.prog 26 (.pointer 68) := ⟨by kernel_rfl⟩
instance Try.tz26 : TZ Try.prog 26 [.pointer none] := TZ.of (by kernel_rfl)
instance Try.tl27 : TL Try.prog 27 1 false := ⟨by kernel_rfl, by kernel_rfl⟩
instance Try.tb27 : TB Try.prog 27 8 := ⟨by kernel_rfl⟩
instance Try.tu27 : TU Try.prog 27 (.int .i64) := ⟨by kernel_rfl⟩
instance Try.tz27 : TZ Try.prog 27 [.int .i64 (0)] := TZ.of (by kernel_rfl)
instance Try.tl30 : TL Try.prog 30 1 false := ⟨by kernel_rfl, by kernel_rfl⟩
instance Try.tb30 : TB Try.prog 30 24 := ⟨by kernel_rfl⟩
instance Try.tu30 : TU Try.prog 30 (.slice 49) := ⟨by kernel_rfl⟩
instance Try.tz30 : TZ Try.prog 30 [.slice none 0 0] := TZ.of (by kernel_rfl)
instance Try.tl31 : TL Try.prog 31 4 true := ⟨by kernel_rfl, by kernel_rfl⟩
instance Try.tb31 : TB Try.prog 31 32 := ⟨by kernel_rfl⟩
instance Try.tz31 : TZ Try.prog 31 [.int .i64 (0), .int .i64 (0), .int .i64 (0), .int .i64 (0)] := TZ.of (by kernel_rfl)
instance Try.te31 : TE Try.prog 31 [.i, .i, .i, .i] := ⟨by kernel_rfl, by kernel_rfl, by kernel_rfl⟩
instance Try.tf31_0 : TF Try.prog 31 0 0 := TF.of (ft := 3) (k := 0) (by kernel_rfl)
instance Try.tg31_0 : TFt Try.prog 31 0 0 3 := TFt.of (k := 1) (by kernel_rfl)
instance Try.tf31_1 : TF Try.prog 31 1 1 := TF.of (ft := 3) (k := 0) (by kernel_rfl)
instance Try.tg31_1 : TFt Try.prog 31 1 1 3 := TFt.of (k := 1) (by kernel_rfl)
instance Try.tf31_2 : TF Try.prog 31 2 2 := TF.of (ft := 3) (k := 0) (by kernel_rfl)
instance Try.tg31_2 : TFt Try.prog 31 2 2 3 := TFt.of (k := 1) (by kernel_rfl)
instance Try.tf31_3 : TF Try.prog 31 3 3 := TF.of (ft := 3) (k := 0) (by kernel_rfl)
instance Try.tg31_3 : TFt Try.prog 31 3 3 3 := TFt.of (k := 1) (by kernel_rfl)
instance Try.tp31 : TP Try.prog 31 [(0, 1), (1, 1), (2, 1), (3, 1)] := TP.of (by kernel_rfl)
instance Try.tl32 : TL Try.prog 32 4 true := ⟨by kernel_rfl, by kernel_rfl⟩
instance Try.tb32 : TB Try.prog 32 32 := ⟨by kernel_rfl⟩
instance Try.tz32 : TZ Try.prog 32 [.int .i64 (0), .int .i64 (0), .int .i64 (0), .int .i64 (0)] := TZ.of (by kernel_rfl)
instance Try.te32 : TE Try.prog 32 [.i, .i, .i, .i] := ⟨by kernel_rfl, by kernel_rfl, by kernel_rfl⟩
instance Try.tf32_0 : TF Try.prog 32 0 0 := TF.of (ft := 3) (k := 0) (by kernel_rfl)
instance Try.tg32_0 : TFt Try.prog 32 0 0 3 := TFt.of (k := 1) (by kernel_rfl)
instance Try.tf32_1 : TF Try.prog 32 1 1 := TF.of (ft := 3) (k := 0) (by kernel_rfl)
instance Try.tg32_1 : TFt Try.prog 32 1 1 3 := TFt.of (k := 1) (by kernel_rfl)
instance Try.tf32_2 : TF Try.prog 32 2 2 := TF.of (ft := 3) (k := 0) (by kernel_rfl)
instance Try.tg32_2 : TFt Try.prog 32 2 2 3 := TFt.of (k := 1) (by kernel_rfl)
instance Try.tf32_3 : TF Try.prog 32 3 3 := TF.of (ft := 3) (k := 0) (by kernel_rfl)
instance Try.tg32_3 : TFt Try.prog 32 3 3 3 := TFt.of (k := 1) (by kernel_rfl)
instance Try.tp32 : TP Try.prog 32 [(0, 1), (1, 1), (2, 1), (3, 1)] := TP.of (by kernel_rfl)
instance Try.tl33 : TL Try.prog 33 2 true := ⟨by kernel_rfl, by kernel_rfl⟩
instance Try.tb33 : TB Try.prog 33 16 := ⟨by kernel_rfl⟩
instance Try.tz33 : TZ Try.prog 33 [.int .i64 (0), .int .i64 (0)] := TZ.of (by kernel_rfl)
instance Try.te33 : TE Try.prog 33 [.i, .i] := ⟨by kernel_rfl, by kernel_rfl, by kernel_rfl⟩
instance Try.tf33_0 : TF Try.prog 33 0 0 := TF.of (ft := 3) (k := 0) (by kernel_rfl)
instance Try.tg33_0 : TFt Try.prog 33 0 0 3 := TFt.of (k := 1) (by kernel_rfl)
instance Try.tf33_1 : TF Try.prog 33 1 1 := TF.of (ft := 3) (k := 0) (by kernel_rfl)
instance Try.tg33_1 : TFt Try.prog 33 1 1 3 := TFt.of (k := 1) (by kernel_rfl)
instance Try.tp33 : TP Try.prog 33 [(0, 1), (1, 1)] := TP.of (by kernel_rfl)
instance Try.tl34 : TL Try.prog 34 2 true := ⟨by kernel_rfl, by kernel_rfl⟩
instance Try.tb34 : TB Try.prog 34 16 := ⟨by kernel_rfl⟩
instance Try.tz34 : TZ Try.prog 34 [.int .i64 (0), .int .i64 (0)] := TZ.of (by kernel_rfl)
instance Try.te34 : TE Try.prog 34 [.i, .i] := ⟨by kernel_rfl, by kernel_rfl, by kernel_rfl⟩
instance Try.tf34_0 : TF Try.prog 34 0 0 := TF.of (ft := 3) (k := 0) (by kernel_rfl)
instance Try.tg34_0 : TFt Try.prog 34 0 0 3 := TFt.of (k := 1) (by kernel_rfl)
instance Try.tf34_1 : TF Try.prog 34 1 1 := TF.of (ft := 3) (k := 0) (by kernel_rfl)
instance Try.tg34_1 : TFt Try.prog 34 1 1 3 := TFt.of (k := 1) (by kernel_rfl)
instance Try.tp34 : TP Try.prog 34 [(0, 1), (1, 1)] := TP.of (by kernel_rfl)
instance Try.tl35 : TL Try.prog 35 8 true := ⟨by kernel_rfl, by kernel_rfl⟩
instance Try.tb35 : TB Try.prog 35 64 := ⟨by kernel_rfl⟩
instance Try.tu35 : TU Try.prog 35 (.array 4 34) := ⟨by kernel_rfl⟩
instance Try.tz35 : TZ Try.prog 35 [.int .i64 (0), .int .i64 (0), .int .i64 (0), .int .i64 (0), .int .i64 (0), .int .i64 (0), .int .i64 (0), .int .i64 (0)] := TZ.of (by kernel_rfl)
instance Try.te35 : TE Try.prog 35 [.i, .i, .i, .i, .i, .i, .i, .i] := ⟨by kernel_rfl, by kernel_rfl, by kernel_rfl⟩
instance Try.tl36 : TL Try.prog 36 13 true := ⟨by kernel_rfl, by kernel_rfl⟩
instance Try.tb36 : TB Try.prog 36 104 := ⟨by kernel_rfl⟩
instance Try.tz36 : TZ Try.prog 36 [.int .i64 (0), .int .i64 (0), .int .i64 (0), .int .i64 (0), .int .i64 (0), .int .i64 (0), .int .i64 (0), .int .i64 (0), .int .i64 (0), .int .i64 (0), .bool false, .int .i64 (0), .int .i64 (0)] := TZ.of (by kernel_rfl)
instance Try.te36 : TE Try.prog 36 [.i, .i, .i, .i, .i, .i, .i, .i, .i, .i, .b, .i, .i] := ⟨by kernel_rfl, by kernel_rfl, by kernel_rfl⟩
instance Try.tf36_0 : TF Try.prog 36 0 0 := TF.of (ft := 3) (k := 0) (by kernel_rfl)
instance Try.tg36_0 : TFt Try.prog 36 0 0 3 := TFt.of (k := 1) (by kernel_rfl)
instance Try.tf36_1 : TF Try.prog 36 1 1 := TF.of (ft := 3) (k := 0) (by kernel_rfl)
instance Try.tg36_1 : TFt Try.prog 36 1 1 3 := TFt.of (k := 1) (by kernel_rfl)
instance Try.tf36_2 : TF Try.prog 36 2 2 := TF.of (ft := 35) (k := 7) (by kernel_rfl)
instance Try.tg36_2 : TFt Try.prog 36 2 2 35 := TFt.of (k := 8) (by kernel_rfl)
instance Try.tf36_3 : TF Try.prog 36 3 10 := TF.of (ft := 4) (k := 0) (by kernel_rfl)
instance Try.tg36_3 : TFt Try.prog 36 3 10 4 := TFt.of (k := 1) (by kernel_rfl)
instance Try.tf36_4 : TF Try.prog 36 4 11 := TF.of (ft := 34) (k := 1) (by kernel_rfl)
instance Try.tg36_4 : TFt Try.prog 36 4 11 34 := TFt.of (k := 2) (by kernel_rfl)
instance Try.tp36 : TP Try.prog 36 [(0, 1), (1, 1), (2, 8), (10, 1), (11, 2)] := TP.of (by kernel_rfl)
instance Try.tl37 : TL Try.prog 37 13 true := ⟨by kernel_rfl, by kernel_rfl⟩
instance Try.tb37 : TB Try.prog 37 104 := ⟨by kernel_rfl⟩
instance Try.tz37 : TZ Try.prog 37 [.int .i64 (0), .int .i64 (0), .int .i64 (0), .int .i64 (0), .int .i64 (0), .int .i64 (0), .int .i64 (0), .int .i64 (0), .int .i64 (0), .int .i64 (0), .bool false, .int .i64 (0), .int .i64 (0)] := TZ.of (by kernel_rfl)
instance Try.te37 : TE Try.prog 37 [.i, .i, .i, .i, .i, .i, .i, .i, .i, .i, .b, .i, .i] := ⟨by kernel_rfl, by kernel_rfl, by kernel_rfl⟩
instance Try.tf37_0 : TF Try.prog 37 0 0 := TF.of (ft := 3) (k := 0) (by kernel_rfl)
instance Try.tg37_0 : TFt Try.prog 37 0 0 3 := TFt.of (k := 1) (by kernel_rfl)
instance Try.tf37_1 : TF Try.prog 37 1 1 := TF.of (ft := 3) (k := 0) (by kernel_rfl)
instance Try.tg37_1 : TFt Try.prog 37 1 1 3 := TFt.of (k := 1) (by kernel_rfl)
instance Try.tf37_2 : TF Try.prog 37 2 2 := TF.of (ft := 35) (k := 7) (by kernel_rfl)
instance Try.tg37_2 : TFt Try.prog 37 2 2 35 := TFt.of (k := 8) (by kernel_rfl)
instance Try.tf37_3 : TF Try.prog 37 3 10 := TF.of (ft := 4) (k := 0) (by kernel_rfl)
instance Try.tg37_3 : TFt Try.prog 37 3 10 4 := TFt.of (k := 1) (by kernel_rfl)
instance Try.tf37_4 : TF Try.prog 37 4 11 := TF.of (ft := 34) (k := 1) (by kernel_rfl)
instance Try.tg37_4 : TFt Try.prog 37 4 11 34 := TFt.of (k := 2) (by kernel_rfl)
instance Try.tp37 : TP Try.prog 37 [(0, 1), (1, 1), (2, 8), (10, 1), (11, 2)] := TP.of (by kernel_rfl)
instance Try.tl38 : TL Try.prog 38 3 true := ⟨by kernel_rfl, by kernel_rfl⟩
instance Try.tb38 : TB Try.prog 38 24 := ⟨by kernel_rfl⟩
instance Try.tz38 : TZ Try.prog 38 [.int .i64 (0), .int .i64 (0), .int .i64 (0)] := TZ.of (by kernel_rfl)
instance Try.te38 : TE Try.prog 38 [.i, .i, .i] := ⟨by kernel_rfl, by kernel_rfl, by kernel_rfl⟩
instance Try.tf38_0 : TF Try.prog 38 0 0 := TF.of (ft := 3) (k := 0) (by kernel_rfl)
instance Try.tg38_0 : TFt Try.prog 38 0 0 3 := TFt.of (k := 1) (by kernel_rfl)
instance Try.tf38_1 : TF Try.prog 38 1 1 := TF.of (ft := 3) (k := 0) (by kernel_rfl)
instance Try.tg38_1 : TFt Try.prog 38 1 1 3 := TFt.of (k := 1) (by kernel_rfl)
instance Try.tf38_2 : TF Try.prog 38 2 2 := TF.of (ft := 3) (k := 0) (by kernel_rfl)
instance Try.tg38_2 : TFt Try.prog 38 2 2 3 := TFt.of (k := 1) (by kernel_rfl)
instance Try.tp38 : TP Try.prog 38 [(0, 1), (1, 1), (2, 1)] := TP.of (by kernel_rfl)
instance Try.tl39 : TL Try.prog 39 3 true := ⟨by kernel_rfl, by kernel_rfl⟩
instance Try.tb39 : TB Try.prog 39 24 := ⟨by kernel_rfl⟩
instance Try.tz39 : TZ Try.prog 39 [.int .i64 (0), .int .i64 (0), .int .i64 (0)] := TZ.of (by kernel_rfl)
instance Try.te39 : TE Try.prog 39 [.i, .i, .i] := ⟨by kernel_rfl, by kernel_rfl, by kernel_rfl⟩
instance Try.tf39_0 : TF Try.prog 39 0 0 := TF.of (ft := 3) (k := 0) (by kernel_rfl)
instance Try.tg39_0 : TFt Try.prog 39 0 0 3 := TFt.of (k := 1) (by kernel_rfl)
instance Try.tf39_1 : TF Try.prog 39 1 1 := TF.of (ft := 3) (k := 0) (by kernel_rfl)
instance Try.tg39_1 : TFt Try.prog 39 1 1 3 := TFt.of (k := 1) (by kernel_rfl)
instance Try.tf39_2 : TF Try.prog 39 2 2 := TF.of (ft := 3) (k := 0) (by kernel_rfl)
instance Try.tg39_2 : TFt Try.prog 39 2 2 3 := TFt.of (k := 1) (by kernel_rfl)
instance Try.tp39 : TP Try.prog 39 [(0, 1), (1, 1), (2, 1)] := TP.of (by kernel_rfl)
instance Try.tl40 : TL Try.prog 40 3 true := ⟨by kernel_rfl, by kernel_rfl⟩
instance Try.tb40 : TB Try.prog 40 24 := ⟨by kernel_rfl⟩
instance Try.tz40 : TZ Try.prog 40 [.int .i64 (0), .int .i64 (0), .int .i64 (0)] := TZ.of (by kernel_rfl)
instance Try.te40 : TE Try.prog 40 [.i, .i, .i] := ⟨by kernel_rfl, by kernel_rfl, by kernel_rfl⟩
instance Try.tf40_0 : TF Try.prog 40 0 0 := TF.of (ft := 3) (k := 0) (by kernel_rfl)
instance Try.tg40_0 : TFt Try.prog 40 0 0 3 := TFt.of (k := 1) (by kernel_rfl)
instance Try.tf40_1 : TF Try.prog 40 1 1 := TF.of (ft := 3) (k := 0) (by kernel_rfl)
instance Try.tg40_1 : TFt Try.prog 40 1 1 3 := TFt.of (k := 1) (by kernel_rfl)
instance Try.tf40_2 : TF Try.prog 40 2 2 := TF.of (ft := 3) (k := 0) (by kernel_rfl)
instance Try.tg40_2 : TFt Try.prog 40 2 2 3 := TFt.of (k := 1) (by kernel_rfl)
instance Try.tp40 : TP Try.prog 40 [(0, 1), (1, 1), (2, 1)] := TP.of (by kernel_rfl)
instance Try.tl41 : TL Try.prog 41 3 true := ⟨by kernel_rfl, by kernel_rfl⟩
instance Try.tb41 : TB Try.prog 41 24 := ⟨by kernel_rfl⟩
instance Try.tz41 : TZ Try.prog 41 [.int .i64 (0), .int .i64 (0), .int .i64 (0)] := TZ.of (by kernel_rfl)
instance Try.te41 : TE Try.prog 41 [.i, .i, .i] := ⟨by kernel_rfl, by kernel_rfl, by kernel_rfl⟩
instance Try.tf41_0 : TF Try.prog 41 0 0 := TF.of (ft := 3) (k := 0) (by kernel_rfl)
instance Try.tg41_0 : TFt Try.prog 41 0 0 3 := TFt.of (k := 1) (by kernel_rfl)
instance Try.tf41_1 : TF Try.prog 41 1 1 := TF.of (ft := 3) (k := 0) (by kernel_rfl)
instance Try.tg41_1 : TFt Try.prog 41 1 1 3 := TFt.of (k := 1) (by kernel_rfl)
instance Try.tf41_2 : TF Try.prog 41 2 2 := TF.of (ft := 3) (k := 0) (by kernel_rfl)
instance Try.tg41_2 : TFt Try.prog 41 2 2 3 := TFt.of (k := 1) (by kernel_rfl)
instance Try.tp41 : TP Try.prog 41 [(0, 1), (1, 1), (2, 1)] := TP.of (by kernel_rfl)
instance Try.tl42 : TL Try.prog 42 3 true := ⟨by kernel_rfl, by kernel_rfl⟩
instance Try.tb42 : TB Try.prog 42 24 := ⟨by kernel_rfl⟩
instance Try.tu42 : TU Try.prog 42 (.array 3 3) := ⟨by kernel_rfl⟩
instance Try.tz42 : TZ Try.prog 42 [.int .i64 (0), .int .i64 (0), .int .i64 (0)] := TZ.of (by kernel_rfl)
instance Try.te42 : TE Try.prog 42 [.i, .i, .i] := ⟨by kernel_rfl, by kernel_rfl, by kernel_rfl⟩
instance Try.tl43 : TL Try.prog 43 9 true := ⟨by kernel_rfl, by kernel_rfl⟩
instance Try.tb43 : TB Try.prog 43 72 := ⟨by kernel_rfl⟩
instance Try.tu43 : TU Try.prog 43 (.array 3 42) := ⟨by kernel_rfl⟩
instance Try.tz43 : TZ Try.prog 43 [.int .i64 (0), .int .i64 (0), .int .i64 (0), .int .i64 (0), .int .i64 (0), .int .i64 (0), .int .i64 (0), .int .i64 (0), .int .i64 (0)] := TZ.of (by kernel_rfl)
instance Try.te43 : TE Try.prog 43 [.i, .i, .i, .i, .i, .i, .i, .i, .i] := ⟨by kernel_rfl, by kernel_rfl, by kernel_rfl⟩
instance Try.tl44 : TL Try.prog 44 9 true := ⟨by kernel_rfl, by kernel_rfl⟩
instance Try.tb44 : TB Try.prog 44 72 := ⟨by kernel_rfl⟩
instance Try.tu44 : TU Try.prog 44 (.array 3 42) := ⟨by kernel_rfl⟩
instance Try.tz44 : TZ Try.prog 44 [.int .i64 (0), .int .i64 (0), .int .i64 (0), .int .i64 (0), .int .i64 (0), .int .i64 (0), .int .i64 (0), .int .i64 (0), .int .i64 (0)] := TZ.of (by kernel_rfl)
instance Try.te44 : TE Try.prog 44 [.i, .i, .i, .i, .i, .i, .i, .i, .i] := ⟨by kernel_rfl, by kernel_rfl, by kernel_rfl⟩
instance Try.tl45 : TL Try.prog 45 20 true := ⟨by kernel_rfl, by kernel_rfl⟩
instance Try.tb45 : TB Try.prog 45 176 := ⟨by kernel_rfl⟩
instance Try.tz45 : TZ Try.prog 45 [.int .i64 (0), .int .i64 (0), .int .i64 (0), .int .i64 (0), .int .i64 (0), .int .i64 (0), .string ByteArray.empty, .string ByteArray.empty, .bool false, .int .i64 (0), .int .i64 (0), .int .i64 (0), .int .i64 (0), .int .i64 (0), .int .i64 (0), .int .i64 (0), .int .i64 (0), .int .i64 (0), .int .i64 (0), .int .i64 (0)] := TZ.of (by kernel_rfl)
instance Try.te45 : TE Try.prog 45 [.i, .i, .i, .i, .i, .i, .s, .s, .b, .i, .i, .i, .i, .i, .i, .i, .i, .i, .i, .i] := ⟨by kernel_rfl, by kernel_rfl, by kernel_rfl⟩
instance Try.tf45_0 : TF Try.prog 45 0 0 := TF.of (ft := 39) (k := 2) (by kernel_rfl)
instance Try.tg45_0 : TFt Try.prog 45 0 0 39 := TFt.of (k := 3) (by kernel_rfl)
instance Try.tf45_1 : TF Try.prog 45 1 3 := TF.of (ft := 41) (k := 2) (by kernel_rfl)
instance Try.tg45_1 : TFt Try.prog 45 1 3 41 := TFt.of (k := 3) (by kernel_rfl)
instance Try.tf45_2 : TF Try.prog 45 2 6 := TF.of (ft := 9) (k := 0) (by kernel_rfl)
instance Try.tg45_2 : TFt Try.prog 45 2 6 9 := TFt.of (k := 1) (by kernel_rfl)
instance Try.tf45_3 : TF Try.prog 45 3 7 := TF.of (ft := 9) (k := 0) (by kernel_rfl)
instance Try.tg45_3 : TFt Try.prog 45 3 7 9 := TFt.of (k := 1) (by kernel_rfl)
instance Try.tf45_4 : TF Try.prog 45 4 8 := TF.of (ft := 4) (k := 0) (by kernel_rfl)
instance Try.tg45_4 : TFt Try.prog 45 4 8 4 := TFt.of (k := 1) (by kernel_rfl)
instance Try.tf45_5 : TF Try.prog 45 5 9 := TF.of (ft := 44) (k := 8) (by kernel_rfl)
instance Try.tg45_5 : TFt Try.prog 45 5 9 44 := TFt.of (k := 9) (by kernel_rfl)
instance Try.tf45_6 : TF Try.prog 45 6 18 := TF.of (ft := 3) (k := 0) (by kernel_rfl)
instance Try.tg45_6 : TFt Try.prog 45 6 18 3 := TFt.of (k := 1) (by kernel_rfl)
instance Try.tf45_7 : TF Try.prog 45 7 19 := TF.of (ft := 3) (k := 0) (by kernel_rfl)
instance Try.tg45_7 : TFt Try.prog 45 7 19 3 := TFt.of (k := 1) (by kernel_rfl)
instance Try.tp45 : TP Try.prog 45 [(0, 3), (3, 3), (6, 1), (7, 1), (8, 1), (9, 9), (18, 1), (19, 1)] := TP.of (by kernel_rfl)
instance Try.tl46 : TL Try.prog 46 20 true := ⟨by kernel_rfl, by kernel_rfl⟩
instance Try.tb46 : TB Try.prog 46 176 := ⟨by kernel_rfl⟩
instance Try.tz46 : TZ Try.prog 46 [.int .i64 (0), .int .i64 (0), .int .i64 (0), .int .i64 (0), .int .i64 (0), .int .i64 (0), .string ByteArray.empty, .string ByteArray.empty, .bool false, .int .i64 (0), .int .i64 (0), .int .i64 (0), .int .i64 (0), .int .i64 (0), .int .i64 (0), .int .i64 (0), .int .i64 (0), .int .i64 (0), .int .i64 (0), .int .i64 (0)] := TZ.of (by kernel_rfl)
instance Try.te46 : TE Try.prog 46 [.i, .i, .i, .i, .i, .i, .s, .s, .b, .i, .i, .i, .i, .i, .i, .i, .i, .i, .i, .i] := ⟨by kernel_rfl, by kernel_rfl, by kernel_rfl⟩
instance Try.tf46_0 : TF Try.prog 46 0 0 := TF.of (ft := 39) (k := 2) (by kernel_rfl)
instance Try.tg46_0 : TFt Try.prog 46 0 0 39 := TFt.of (k := 3) (by kernel_rfl)
instance Try.tf46_1 : TF Try.prog 46 1 3 := TF.of (ft := 41) (k := 2) (by kernel_rfl)
instance Try.tg46_1 : TFt Try.prog 46 1 3 41 := TFt.of (k := 3) (by kernel_rfl)
instance Try.tf46_2 : TF Try.prog 46 2 6 := TF.of (ft := 9) (k := 0) (by kernel_rfl)
instance Try.tg46_2 : TFt Try.prog 46 2 6 9 := TFt.of (k := 1) (by kernel_rfl)
instance Try.tf46_3 : TF Try.prog 46 3 7 := TF.of (ft := 9) (k := 0) (by kernel_rfl)
instance Try.tg46_3 : TFt Try.prog 46 3 7 9 := TFt.of (k := 1) (by kernel_rfl)
instance Try.tf46_4 : TF Try.prog 46 4 8 := TF.of (ft := 4) (k := 0) (by kernel_rfl)
instance Try.tg46_4 : TFt Try.prog 46 4 8 4 := TFt.of (k := 1) (by kernel_rfl)
instance Try.tf46_5 : TF Try.prog 46 5 9 := TF.of (ft := 44) (k := 8) (by kernel_rfl)
instance Try.tg46_5 : TFt Try.prog 46 5 9 44 := TFt.of (k := 9) (by kernel_rfl)
instance Try.tf46_6 : TF Try.prog 46 6 18 := TF.of (ft := 3) (k := 0) (by kernel_rfl)
instance Try.tg46_6 : TFt Try.prog 46 6 18 3 := TFt.of (k := 1) (by kernel_rfl)
instance Try.tf46_7 : TF Try.prog 46 7 19 := TF.of (ft := 3) (k := 0) (by kernel_rfl)
instance Try.tg46_7 : TFt Try.prog 46 7 19 3 := TFt.of (k := 1) (by kernel_rfl)
instance Try.tp46 : TP Try.prog 46 [(0, 3), (3, 3), (6, 1), (7, 1), (8, 1), (9, 9), (18, 1), (19, 1)] := TP.of (by kernel_rfl)
instance Try.tl47 : TL Try.prog 47 3 true := ⟨by kernel_rfl, by kernel_rfl⟩
instance Try.tb47 : TB Try.prog 47 24 := ⟨by kernel_rfl⟩
instance Try.tu47 : TU Try.prog 47 (.array 3 3) := ⟨by kernel_rfl⟩
instance Try.tz47 : TZ Try.prog 47 [.int .i64 (0), .int .i64 (0), .int .i64 (0)] := TZ.of (by kernel_rfl)
instance Try.te47 : TE Try.prog 47 [.i, .i, .i] := ⟨by kernel_rfl, by kernel_rfl, by kernel_rfl⟩
instance Try.tl48 : TL Try.prog 48 74 true := ⟨by kernel_rfl, by kernel_rfl⟩
instance Try.tb48 : TB Try.prog 48 616 := ⟨by kernel_rfl⟩
instance Try.tz48 : TZ Try.prog 48 [.int .i64 (0), .int .i64 (0), .int .i64 (0), .int .i64 (0), .int .i64 (0), .int .i64 (0), .int .i64 (0), .int .i64 (0), .int .i64 (0), .int .i64 (0), .int .i64 (0), .int .i64 (0), .int .i64 (0), .int .i64 (0), .int .i64 (0), .int .i64 (0), .int .i64 (0), .int .i64 (0), .int .i64 (0), .int .i64 (0), .int .i64 (0), .int .i64 (0), .int .i64 (0), .int .i64 (0), .bool false, .int .i64 (0), .int .i64 (0), .int .i64 (0), .int .i64 (0), .int .i64 (0), .int .i64 (0), .int .i64 (0), .int .i64 (0), .string ByteArray.empty, .string ByteArray.empty, .bool false, .int .i64 (0), .int .i64 (0), .int .i64 (0), .int .i64 (0), .int .i64 (0), .int .i64 (0), .int .i64 (0), .int .i64 (0), .int .i64 (0), .int .i64 (0), .int .i64 (0), .bool false, .string ByteArray.empty, .string ByteArray.empty, .bool false, .bool false, .int .i64 (0), .int .i64 (0), .int .i64 (0), .int .i64 (0), .int .i64 (0), .int .i64 (0), .int .i64 (0), .int .i64 (0), .int .i64 (0), .int .i64 (0), .int .i64 (0), .int .i64 (0), .int .i64 (0), .int .i64 (0), .int .i64 (0), .int .i64 (0), .int .i64 (0), .int .i64 (0), .int .i64 (0), .int .i64 (0), .int .i64 (0), .int .i64 (0)] := TZ.of (by kernel_rfl)
instance Try.te48 : TE Try.prog 48 [.i, .i, .i, .i, .i, .i, .i, .i, .i, .i, .i, .i, .i, .i, .i, .i, .i, .i, .i, .i, .i, .i, .i, .i, .b, .i, .i, .i, .i, .i, .i, .i, .i, .s, .s, .b, .i, .i, .i, .i, .i, .i, .i, .i, .i, .i, .i, .b, .s, .s, .b, .b, .i, .i, .i, .i, .i, .i, .i, .i, .i, .i, .i, .i, .i, .i, .i, .i, .i, .i, .i, .i, .i, .i] := ⟨by kernel_rfl, by kernel_rfl, by kernel_rfl⟩
instance Try.tf48_0 : TF Try.prog 48 0 0 := TF.of (ft := 3) (k := 0) (by kernel_rfl)
instance Try.tg48_0 : TFt Try.prog 48 0 0 3 := TFt.of (k := 1) (by kernel_rfl)
instance Try.tf48_1 : TF Try.prog 48 1 1 := TF.of (ft := 32) (k := 3) (by kernel_rfl)
instance Try.tg48_1 : TFt Try.prog 48 1 1 32 := TFt.of (k := 4) (by kernel_rfl)
instance Try.tf48_2 : TF Try.prog 48 2 5 := TF.of (ft := 32) (k := 3) (by kernel_rfl)
instance Try.tg48_2 : TFt Try.prog 48 2 5 32 := TFt.of (k := 4) (by kernel_rfl)
instance Try.tf48_3 : TF Try.prog 48 3 9 := TF.of (ft := 3) (k := 0) (by kernel_rfl)
instance Try.tg48_3 : TFt Try.prog 48 3 9 3 := TFt.of (k := 1) (by kernel_rfl)
instance Try.tf48_4 : TF Try.prog 48 4 10 := TF.of (ft := 3) (k := 0) (by kernel_rfl)
instance Try.tg48_4 : TFt Try.prog 48 4 10 3 := TFt.of (k := 1) (by kernel_rfl)
instance Try.tf48_5 : TF Try.prog 48 5 11 := TF.of (ft := 3) (k := 0) (by kernel_rfl)
instance Try.tg48_5 : TFt Try.prog 48 5 11 3 := TFt.of (k := 1) (by kernel_rfl)
instance Try.tf48_6 : TF Try.prog 48 6 12 := TF.of (ft := 3) (k := 0) (by kernel_rfl)
instance Try.tg48_6 : TFt Try.prog 48 6 12 3 := TFt.of (k := 1) (by kernel_rfl)
instance Try.tf48_7 : TF Try.prog 48 7 13 := TF.of (ft := 3) (k := 0) (by kernel_rfl)
instance Try.tg48_7 : TFt Try.prog 48 7 13 3 := TFt.of (k := 1) (by kernel_rfl)
instance Try.tf48_8 : TF Try.prog 48 8 14 := TF.of (ft := 37) (k := 12) (by kernel_rfl)
instance Try.tg48_8 : TFt Try.prog 48 8 14 37 := TFt.of (k := 13) (by kernel_rfl)
instance Try.tf48_9 : TF Try.prog 48 9 27 := TF.of (ft := 46) (k := 19) (by kernel_rfl)
instance Try.tg48_9 : TFt Try.prog 48 9 27 46 := TFt.of (k := 20) (by kernel_rfl)
instance Try.tf48_10 : TF Try.prog 48 10 47 := TF.of (ft := 4) (k := 0) (by kernel_rfl)
instance Try.tg48_10 : TFt Try.prog 48 10 47 4 := TFt.of (k := 1) (by kernel_rfl)
instance Try.tf48_11 : TF Try.prog 48 11 48 := TF.of (ft := 9) (k := 0) (by kernel_rfl)
instance Try.tg48_11 : TFt Try.prog 48 11 48 9 := TFt.of (k := 1) (by kernel_rfl)
instance Try.tf48_12 : TF Try.prog 48 12 49 := TF.of (ft := 9) (k := 0) (by kernel_rfl)
instance Try.tg48_12 : TFt Try.prog 48 12 49 9 := TFt.of (k := 1) (by kernel_rfl)
instance Try.tf48_13 : TF Try.prog 48 13 50 := TF.of (ft := 4) (k := 0) (by kernel_rfl)
instance Try.tg48_13 : TFt Try.prog 48 13 50 4 := TFt.of (k := 1) (by kernel_rfl)
instance Try.tf48_14 : TF Try.prog 48 14 51 := TF.of (ft := 4) (k := 0) (by kernel_rfl)
instance Try.tg48_14 : TFt Try.prog 48 14 51 4 := TFt.of (k := 1) (by kernel_rfl)
instance Try.tf48_15 : TF Try.prog 48 15 52 := TF.of (ft := 44) (k := 8) (by kernel_rfl)
instance Try.tg48_15 : TFt Try.prog 48 15 52 44 := TFt.of (k := 9) (by kernel_rfl)
instance Try.tf48_16 : TF Try.prog 48 16 61 := TF.of (ft := 44) (k := 8) (by kernel_rfl)
instance Try.tg48_16 : TFt Try.prog 48 16 61 44 := TFt.of (k := 9) (by kernel_rfl)
instance Try.tf48_17 : TF Try.prog 48 17 70 := TF.of (ft := 47) (k := 2) (by kernel_rfl)
instance Try.tg48_17 : TFt Try.prog 48 17 70 47 := TFt.of (k := 3) (by kernel_rfl)
instance Try.tf48_18 : TF Try.prog 48 18 73 := TF.of (ft := 27) (k := 0) (by kernel_rfl)
instance Try.tg48_18 : TFt Try.prog 48 18 73 27 := TFt.of (k := 1) (by kernel_rfl)
instance Try.tp48 : TP Try.prog 48 [(0, 1), (1, 4), (5, 4), (9, 1), (10, 1), (11, 1), (12, 1), (13, 1), (14, 13), (27, 20), (47, 1), (48, 1), (49, 1), (50, 1), (51, 1), (52, 9), (61, 9), (70, 3), (73, 1)] := TP.of (by kernel_rfl)
instance Try.tl49 : TL Try.prog 49 74 true := ⟨by kernel_rfl, by kernel_rfl⟩
instance Try.tb49 : TB Try.prog 49 616 := ⟨by kernel_rfl⟩
instance Try.tz49 : TZ Try.prog 49 [.int .i64 (0), .int .i64 (0), .int .i64 (0), .int .i64 (0), .int .i64 (0), .int .i64 (0), .int .i64 (0), .int .i64 (0), .int .i64 (0), .int .i64 (0), .int .i64 (0), .int .i64 (0), .int .i64 (0), .int .i64 (0), .int .i64 (0), .int .i64 (0), .int .i64 (0), .int .i64 (0), .int .i64 (0), .int .i64 (0), .int .i64 (0), .int .i64 (0), .int .i64 (0), .int .i64 (0), .bool false, .int .i64 (0), .int .i64 (0), .int .i64 (0), .int .i64 (0), .int .i64 (0), .int .i64 (0), .int .i64 (0), .int .i64 (0), .string ByteArray.empty, .string ByteArray.empty, .bool false, .int .i64 (0), .int .i64 (0), .int .i64 (0), .int .i64 (0), .int .i64 (0), .int .i64 (0), .int .i64 (0), .int .i64 (0), .int .i64 (0), .int .i64 (0), .int .i64 (0), .bool false, .string ByteArray.empty, .string ByteArray.empty, .bool false, .bool false, .int .i64 (0), .int .i64 (0), .int .i64 (0), .int .i64 (0), .int .i64 (0), .int .i64 (0), .int .i64 (0), .int .i64 (0), .int .i64 (0), .int .i64 (0), .int .i64 (0), .int .i64 (0), .int .i64 (0), .int .i64 (0), .int .i64 (0), .int .i64 (0), .int .i64 (0), .int .i64 (0), .int .i64 (0), .int .i64 (0), .int .i64 (0), .int .i64 (0)] := TZ.of (by kernel_rfl)
instance Try.te49 : TE Try.prog 49 [.i, .i, .i, .i, .i, .i, .i, .i, .i, .i, .i, .i, .i, .i, .i, .i, .i, .i, .i, .i, .i, .i, .i, .i, .b, .i, .i, .i, .i, .i, .i, .i, .i, .s, .s, .b, .i, .i, .i, .i, .i, .i, .i, .i, .i, .i, .i, .b, .s, .s, .b, .b, .i, .i, .i, .i, .i, .i, .i, .i, .i, .i, .i, .i, .i, .i, .i, .i, .i, .i, .i, .i, .i, .i] := ⟨by kernel_rfl, by kernel_rfl, by kernel_rfl⟩
instance Try.tf49_0 : TF Try.prog 49 0 0 := TF.of (ft := 3) (k := 0) (by kernel_rfl)
instance Try.tg49_0 : TFt Try.prog 49 0 0 3 := TFt.of (k := 1) (by kernel_rfl)
instance Try.tf49_1 : TF Try.prog 49 1 1 := TF.of (ft := 32) (k := 3) (by kernel_rfl)
instance Try.tg49_1 : TFt Try.prog 49 1 1 32 := TFt.of (k := 4) (by kernel_rfl)
instance Try.tf49_2 : TF Try.prog 49 2 5 := TF.of (ft := 32) (k := 3) (by kernel_rfl)
instance Try.tg49_2 : TFt Try.prog 49 2 5 32 := TFt.of (k := 4) (by kernel_rfl)
instance Try.tf49_3 : TF Try.prog 49 3 9 := TF.of (ft := 3) (k := 0) (by kernel_rfl)
instance Try.tg49_3 : TFt Try.prog 49 3 9 3 := TFt.of (k := 1) (by kernel_rfl)
instance Try.tf49_4 : TF Try.prog 49 4 10 := TF.of (ft := 3) (k := 0) (by kernel_rfl)
instance Try.tg49_4 : TFt Try.prog 49 4 10 3 := TFt.of (k := 1) (by kernel_rfl)
instance Try.tf49_5 : TF Try.prog 49 5 11 := TF.of (ft := 3) (k := 0) (by kernel_rfl)
instance Try.tg49_5 : TFt Try.prog 49 5 11 3 := TFt.of (k := 1) (by kernel_rfl)
instance Try.tf49_6 : TF Try.prog 49 6 12 := TF.of (ft := 3) (k := 0) (by kernel_rfl)
instance Try.tg49_6 : TFt Try.prog 49 6 12 3 := TFt.of (k := 1) (by kernel_rfl)
instance Try.tf49_7 : TF Try.prog 49 7 13 := TF.of (ft := 3) (k := 0) (by kernel_rfl)
instance Try.tg49_7 : TFt Try.prog 49 7 13 3 := TFt.of (k := 1) (by kernel_rfl)
instance Try.tf49_8 : TF Try.prog 49 8 14 := TF.of (ft := 37) (k := 12) (by kernel_rfl)
instance Try.tg49_8 : TFt Try.prog 49 8 14 37 := TFt.of (k := 13) (by kernel_rfl)
instance Try.tf49_9 : TF Try.prog 49 9 27 := TF.of (ft := 46) (k := 19) (by kernel_rfl)
instance Try.tg49_9 : TFt Try.prog 49 9 27 46 := TFt.of (k := 20) (by kernel_rfl)
instance Try.tf49_10 : TF Try.prog 49 10 47 := TF.of (ft := 4) (k := 0) (by kernel_rfl)
instance Try.tg49_10 : TFt Try.prog 49 10 47 4 := TFt.of (k := 1) (by kernel_rfl)
instance Try.tf49_11 : TF Try.prog 49 11 48 := TF.of (ft := 9) (k := 0) (by kernel_rfl)
instance Try.tg49_11 : TFt Try.prog 49 11 48 9 := TFt.of (k := 1) (by kernel_rfl)
instance Try.tf49_12 : TF Try.prog 49 12 49 := TF.of (ft := 9) (k := 0) (by kernel_rfl)
instance Try.tg49_12 : TFt Try.prog 49 12 49 9 := TFt.of (k := 1) (by kernel_rfl)
instance Try.tf49_13 : TF Try.prog 49 13 50 := TF.of (ft := 4) (k := 0) (by kernel_rfl)
instance Try.tg49_13 : TFt Try.prog 49 13 50 4 := TFt.of (k := 1) (by kernel_rfl)
instance Try.tf49_14 : TF Try.prog 49 14 51 := TF.of (ft := 4) (k := 0) (by kernel_rfl)
instance Try.tg49_14 : TFt Try.prog 49 14 51 4 := TFt.of (k := 1) (by kernel_rfl)
instance Try.tf49_15 : TF Try.prog 49 15 52 := TF.of (ft := 44) (k := 8) (by kernel_rfl)
instance Try.tg49_15 : TFt Try.prog 49 15 52 44 := TFt.of (k := 9) (by kernel_rfl)
instance Try.tf49_16 : TF Try.prog 49 16 61 := TF.of (ft := 44) (k := 8) (by kernel_rfl)
instance Try.tg49_16 : TFt Try.prog 49 16 61 44 := TFt.of (k := 9) (by kernel_rfl)
instance Try.tf49_17 : TF Try.prog 49 17 70 := TF.of (ft := 47) (k := 2) (by kernel_rfl)
instance Try.tg49_17 : TFt Try.prog 49 17 70 47 := TFt.of (k := 3) (by kernel_rfl)
instance Try.tf49_18 : TF Try.prog 49 18 73 := TF.of (ft := 27) (k := 0) (by kernel_rfl)
instance Try.tg49_18 : TFt Try.prog 49 18 73 27 := TFt.of (k := 1) (by kernel_rfl)
instance Try.tp49 : TP Try.prog 49 [(0, 1), (1, 4), (5, 4), (9, 1), (10, 1), (11, 1), (12, 1), (13, 1), (14, 13), (27, 20), (47, 1), (48, 1), (49, 1), (50, 1), (51, 1), (52, 9), (61, 9), (70, 3), (73, 1)] := TP.of (by kernel_rfl)
instance Try.tl50 : TL Try.prog 50 78 true := ⟨by kernel_rfl, by kernel_rfl⟩
instance Try.tb50 : TB Try.prog 50 648 := ⟨by kernel_rfl⟩
instance Try.tz50 : TZ Try.prog 50 [.int .i64 (0), .int .i64 (0), .int .i64 (0), .int .i64 (0), .int .i64 (0), .int .i64 (0), .int .i64 (0), .int .i64 (0), .int .i64 (0), .int .i64 (0), .int .i64 (0), .int .i64 (0), .int .i64 (0), .int .i64 (0), .int .i64 (0), .int .i64 (0), .int .i64 (0), .int .i64 (0), .int .i64 (0), .int .i64 (0), .int .i64 (0), .int .i64 (0), .int .i64 (0), .int .i64 (0), .int .i64 (0), .int .i64 (0), .int .i64 (0), .int .i64 (0), .bool false, .int .i64 (0), .int .i64 (0), .int .i64 (0), .int .i64 (0), .int .i64 (0), .int .i64 (0), .int .i64 (0), .int .i64 (0), .string ByteArray.empty, .string ByteArray.empty, .bool false, .int .i64 (0), .int .i64 (0), .int .i64 (0), .int .i64 (0), .int .i64 (0), .int .i64 (0), .int .i64 (0), .int .i64 (0), .int .i64 (0), .int .i64 (0), .int .i64 (0), .bool false, .string ByteArray.empty, .string ByteArray.empty, .bool false, .bool false, .int .i64 (0), .int .i64 (0), .int .i64 (0), .int .i64 (0), .int .i64 (0), .int .i64 (0), .int .i64 (0), .int .i64 (0), .int .i64 (0), .int .i64 (0), .int .i64 (0), .int .i64 (0), .int .i64 (0), .int .i64 (0), .int .i64 (0), .int .i64 (0), .int .i64 (0), .int .i64 (0), .int .i64 (0), .int .i64 (0), .int .i64 (0), .int .i64 (0)] := TZ.of (by kernel_rfl)
instance Try.te50 : TE Try.prog 50 [.i, .i, .i, .i, .i, .i, .i, .i, .i, .i, .i, .i, .i, .i, .i, .i, .i, .i, .i, .i, .i, .i, .i, .i, .i, .i, .i, .i, .b, .i, .i, .i, .i, .i, .i, .i, .i, .s, .s, .b, .i, .i, .i, .i, .i, .i, .i, .i, .i, .i, .i, .b, .s, .s, .b, .b, .i, .i, .i, .i, .i, .i, .i, .i, .i, .i, .i, .i, .i, .i, .i, .i, .i, .i, .i, .i, .i, .i] := ⟨by kernel_rfl, by kernel_rfl, by kernel_rfl⟩
instance Try.tf50_0 : TF Try.prog 50 0 0 := TF.of (ft := 3) (k := 0) (by kernel_rfl)
instance Try.tg50_0 : TFt Try.prog 50 0 0 3 := TFt.of (k := 1) (by kernel_rfl)
instance Try.tf50_1 : TF Try.prog 50 1 1 := TF.of (ft := 3) (k := 0) (by kernel_rfl)
instance Try.tg50_1 : TFt Try.prog 50 1 1 3 := TFt.of (k := 1) (by kernel_rfl)
instance Try.tf50_2 : TF Try.prog 50 2 2 := TF.of (ft := 3) (k := 0) (by kernel_rfl)
instance Try.tg50_2 : TFt Try.prog 50 2 2 3 := TFt.of (k := 1) (by kernel_rfl)
instance Try.tf50_3 : TF Try.prog 50 3 3 := TF.of (ft := 3) (k := 0) (by kernel_rfl)
instance Try.tg50_3 : TFt Try.prog 50 3 3 3 := TFt.of (k := 1) (by kernel_rfl)
instance Try.tf50_4 : TF Try.prog 50 4 4 := TF.of (ft := 49) (k := 73) (by kernel_rfl)
instance Try.tg50_4 : TFt Try.prog 50 4 4 49 := TFt.of (k := 74) (by kernel_rfl)
instance Try.tp50 : TP Try.prog 50 [(0, 1), (1, 1), (2, 1), (3, 1), (4, 74)] := TP.of (by kernel_rfl)
instance Try.tl51 : TL Try.prog 51 78 true := ⟨by kernel_rfl, by kernel_rfl⟩
instance Try.tb51 : TB Try.prog 51 648 := ⟨by kernel_rfl⟩
instance Try.tz51 : TZ Try.prog 51 [.int .i64 (0), .int .i64 (0), .int .i64 (0), .int .i64 (0), .int .i64 (0), .int .i64 (0), .int .i64 (0), .int .i64 (0), .int .i64 (0), .int .i64 (0), .int .i64 (0), .int .i64 (0), .int .i64 (0), .int .i64 (0), .int .i64 (0), .int .i64 (0), .int .i64 (0), .int .i64 (0), .int .i64 (0), .int .i64 (0), .int .i64 (0), .int .i64 (0), .int .i64 (0), .int .i64 (0), .int .i64 (0), .int .i64 (0), .int .i64 (0), .int .i64 (0), .bool false, .int .i64 (0), .int .i64 (0), .int .i64 (0), .int .i64 (0), .int .i64 (0), .int .i64 (0), .int .i64 (0), .int .i64 (0), .string ByteArray.empty, .string ByteArray.empty, .bool false, .int .i64 (0), .int .i64 (0), .int .i64 (0), .int .i64 (0), .int .i64 (0), .int .i64 (0), .int .i64 (0), .int .i64 (0), .int .i64 (0), .int .i64 (0), .int .i64 (0), .bool false, .string ByteArray.empty, .string ByteArray.empty, .bool false, .bool false, .int .i64 (0), .int .i64 (0), .int .i64 (0), .int .i64 (0), .int .i64 (0), .int .i64 (0), .int .i64 (0), .int .i64 (0), .int .i64 (0), .int .i64 (0), .int .i64 (0), .int .i64 (0), .int .i64 (0), .int .i64 (0), .int .i64 (0), .int .i64 (0), .int .i64 (0), .int .i64 (0), .int .i64 (0), .int .i64 (0), .int .i64 (0), .int .i64 (0)] := TZ.of (by kernel_rfl)
instance Try.te51 : TE Try.prog 51 [.i, .i, .i, .i, .i, .i, .i, .i, .i, .i, .i, .i, .i, .i, .i, .i, .i, .i, .i, .i, .i, .i, .i, .i, .i, .i, .i, .i, .b, .i, .i, .i, .i, .i, .i, .i, .i, .s, .s, .b, .i, .i, .i, .i, .i, .i, .i, .i, .i, .i, .i, .b, .s, .s, .b, .b, .i, .i, .i, .i, .i, .i, .i, .i, .i, .i, .i, .i, .i, .i, .i, .i, .i, .i, .i, .i, .i, .i] := ⟨by kernel_rfl, by kernel_rfl, by kernel_rfl⟩
instance Try.tf51_0 : TF Try.prog 51 0 0 := TF.of (ft := 3) (k := 0) (by kernel_rfl)
instance Try.tg51_0 : TFt Try.prog 51 0 0 3 := TFt.of (k := 1) (by kernel_rfl)
instance Try.tf51_1 : TF Try.prog 51 1 1 := TF.of (ft := 3) (k := 0) (by kernel_rfl)
instance Try.tg51_1 : TFt Try.prog 51 1 1 3 := TFt.of (k := 1) (by kernel_rfl)
instance Try.tf51_2 : TF Try.prog 51 2 2 := TF.of (ft := 3) (k := 0) (by kernel_rfl)
instance Try.tg51_2 : TFt Try.prog 51 2 2 3 := TFt.of (k := 1) (by kernel_rfl)
instance Try.tf51_3 : TF Try.prog 51 3 3 := TF.of (ft := 3) (k := 0) (by kernel_rfl)
instance Try.tg51_3 : TFt Try.prog 51 3 3 3 := TFt.of (k := 1) (by kernel_rfl)
instance Try.tf51_4 : TF Try.prog 51 4 4 := TF.of (ft := 49) (k := 73) (by kernel_rfl)
instance Try.tg51_4 : TFt Try.prog 51 4 4 49 := TFt.of (k := 74) (by kernel_rfl)
instance Try.tp51 : TP Try.prog 51 [(0, 1), (1, 1), (2, 1), (3, 1), (4, 74)] := TP.of (by kernel_rfl)
instance Try.tl61 : TL Try.prog 61 1 false := ⟨by kernel_rfl, by kernel_rfl⟩
instance Try.tb61 : TB Try.prog 61 8 := ⟨by kernel_rfl⟩
instance Try.tu61 : TU Try.prog 61 (.pointer 91) := ⟨by kernel_rfl⟩
instance Try.tz61 : TZ Try.prog 61 [.pointer none] := TZ.of (by kernel_rfl)
instance Try.tl63 : TL Try.prog 63 1 false := ⟨by kernel_rfl, by kernel_rfl⟩
instance Try.tb63 : TB Try.prog 63 8 := ⟨by kernel_rfl⟩
instance Try.tu63 : TU Try.prog 63 (.pointer 103) := ⟨by kernel_rfl⟩
instance Try.tz63 : TZ Try.prog 63 [.pointer none] := TZ.of (by kernel_rfl)
instance Try.tl64 : TL Try.prog 64 39 true := ⟨by kernel_rfl, by kernel_rfl⟩
instance Try.tb64 : TB Try.prog 64 312 := ⟨by kernel_rfl⟩
instance Try.tu64 : TU Try.prog 64 (.array 3 37) := ⟨by kernel_rfl⟩
instance Try.tz64 : TZ Try.prog 64 [.int .i64 (0), .int .i64 (0), .int .i64 (0), .int .i64 (0), .int .i64 (0), .int .i64 (0), .int .i64 (0), .int .i64 (0), .int .i64 (0), .int .i64 (0), .bool false, .int .i64 (0), .int .i64 (0), .int .i64 (0), .int .i64 (0), .int .i64 (0), .int .i64 (0), .int .i64 (0), .int .i64 (0), .int .i64 (0), .int .i64 (0), .int .i64 (0), .int .i64 (0), .bool false, .int .i64 (0), .int .i64 (0), .int .i64 (0), .int .i64 (0), .int .i64 (0), .int .i64 (0), .int .i64 (0), .int .i64 (0), .int .i64 (0), .int .i64 (0), .int .i64 (0), .int .i64 (0), .bool false, .int .i64 (0), .int .i64 (0)] := TZ.of (by kernel_rfl)
instance Try.te64 : TE Try.prog 64 [.i, .i, .i, .i, .i, .i, .i, .i, .i, .i, .b, .i, .i, .i, .i, .i, .i, .i, .i, .i, .i, .i, .i, .b, .i, .i, .i, .i, .i, .i, .i, .i, .i, .i, .i, .i, .b, .i, .i] := ⟨by kernel_rfl, by kernel_rfl, by kernel_rfl⟩
instance Try.tl65 : TL Try.prog 65 1 false := ⟨by kernel_rfl, by kernel_rfl⟩
instance Try.tb65 : TB Try.prog 65 8 := ⟨by kernel_rfl⟩
instance Try.tu65 : TU Try.prog 65 (.pointer 95) := ⟨by kernel_rfl⟩
instance Try.tz65 : TZ Try.prog 65 [.pointer none] := TZ.of (by kernel_rfl)
instance Try.tl66 : TL Try.prog 66 3 true := ⟨by kernel_rfl, by kernel_rfl⟩
instance Try.tb66 : TB Try.prog 66 24 := ⟨by kernel_rfl⟩
instance Try.tu66 : TU Try.prog 66 (.array 3 65) := ⟨by kernel_rfl⟩
instance Try.tz66 : TZ Try.prog 66 [.pointer none, .pointer none, .pointer none] := TZ.of (by kernel_rfl)
instance Try.tl67 : TL Try.prog 67 50 true := ⟨by kernel_rfl, by kernel_rfl⟩
instance Try.tb67 : TB Try.prog 67 400 := ⟨by kernel_rfl⟩
instance Try.tz67 : TZ Try.prog 67 [.int .i64 (0), .int .i64 (0), .int .i64 (0), .int .i64 (0), .int .i64 (0), .pointer none, .bool false, .pointer none, .int .i64 (0), .int .i64 (0), .int .i64 (0), .int .i64 (0), .int .i64 (0), .int .i64 (0), .int .i64 (0), .int .i64 (0), .int .i64 (0), .int .i64 (0), .bool false, .int .i64 (0), .int .i64 (0), .int .i64 (0), .int .i64 (0), .int .i64 (0), .int .i64 (0), .int .i64 (0), .int .i64 (0), .int .i64 (0), .int .i64 (0), .int .i64 (0), .int .i64 (0), .bool false, .int .i64 (0), .int .i64 (0), .int .i64 (0), .int .i64 (0), .int .i64 (0), .int .i64 (0), .int .i64 (0), .int .i64 (0), .int .i64 (0), .int .i64 (0), .int .i64 (0), .int .i64 (0), .bool false, .int .i64 (0), .int .i64 (0), .pointer none, .pointer none, .pointer none] := TZ.of (by kernel_rfl)
instance Try.tf67_0 : TF Try.prog 67 0 0 := TF.of (ft := 23) (k := 3) (by kernel_rfl)
instance Try.tg67_0 : TFt Try.prog 67 0 0 23 := TFt.of (k := 4) (by kernel_rfl)
instance Try.tf67_1 : TF Try.prog 67 1 4 := TF.of (ft := 3) (k := 0) (by kernel_rfl)
instance Try.tg67_1 : TFt Try.prog 67 1 4 3 := TFt.of (k := 1) (by kernel_rfl)
instance Try.tf67_2 : TF Try.prog 67 2 5 := TF.of (ft := 61) (k := 0) (by kernel_rfl)
instance Try.tg67_2 : TFt Try.prog 67 2 5 61 := TFt.of (k := 1) (by kernel_rfl)
instance Try.tf67_3 : TF Try.prog 67 3 6 := TF.of (ft := 4) (k := 0) (by kernel_rfl)
instance Try.tg67_3 : TFt Try.prog 67 3 6 4 := TFt.of (k := 1) (by kernel_rfl)
instance Try.tf67_4 : TF Try.prog 67 4 7 := TF.of (ft := 63) (k := 0) (by kernel_rfl)
instance Try.tg67_4 : TFt Try.prog 67 4 7 63 := TFt.of (k := 1) (by kernel_rfl)
instance Try.tf67_5 : TF Try.prog 67 5 8 := TF.of (ft := 64) (k := 38) (by kernel_rfl)
instance Try.tg67_5 : TFt Try.prog 67 5 8 64 := TFt.of (k := 39) (by kernel_rfl)
instance Try.tf67_6 : TF Try.prog 67 6 47 := TF.of (ft := 66) (k := 2) (by kernel_rfl)
instance Try.tg67_6 : TFt Try.prog 67 6 47 66 := TFt.of (k := 3) (by kernel_rfl)
instance Try.tp67 : TP Try.prog 67 [(0, 4), (4, 1), (5, 1), (6, 1), (7, 1), (8, 39), (47, 3)] := TP.of (by kernel_rfl)
instance Try.tl68 : TL Try.prog 68 50 true := ⟨by kernel_rfl, by kernel_rfl⟩
instance Try.tb68 : TB Try.prog 68 400 := ⟨by kernel_rfl⟩
instance Try.tz68 : TZ Try.prog 68 [.int .i64 (0), .int .i64 (0), .int .i64 (0), .int .i64 (0), .int .i64 (0), .pointer none, .bool false, .pointer none, .int .i64 (0), .int .i64 (0), .int .i64 (0), .int .i64 (0), .int .i64 (0), .int .i64 (0), .int .i64 (0), .int .i64 (0), .int .i64 (0), .int .i64 (0), .bool false, .int .i64 (0), .int .i64 (0), .int .i64 (0), .int .i64 (0), .int .i64 (0), .int .i64 (0), .int .i64 (0), .int .i64 (0), .int .i64 (0), .int .i64 (0), .int .i64 (0), .int .i64 (0), .bool false, .int .i64 (0), .int .i64 (0), .int .i64 (0), .int .i64 (0), .int .i64 (0), .int .i64 (0), .int .i64 (0), .int .i64 (0), .int .i64 (0), .int .i64 (0), .int .i64 (0), .int .i64 (0), .bool false, .int .i64 (0), .int .i64 (0), .pointer none, .pointer none, .pointer none] := TZ.of (by kernel_rfl)
instance Try.tf68_0 : TF Try.prog 68 0 0 := TF.of (ft := 23) (k := 3) (by kernel_rfl)
instance Try.tg68_0 : TFt Try.prog 68 0 0 23 := TFt.of (k := 4) (by kernel_rfl)
instance Try.tf68_1 : TF Try.prog 68 1 4 := TF.of (ft := 3) (k := 0) (by kernel_rfl)
instance Try.tg68_1 : TFt Try.prog 68 1 4 3 := TFt.of (k := 1) (by kernel_rfl)
instance Try.tf68_2 : TF Try.prog 68 2 5 := TF.of (ft := 61) (k := 0) (by kernel_rfl)
instance Try.tg68_2 : TFt Try.prog 68 2 5 61 := TFt.of (k := 1) (by kernel_rfl)
instance Try.tf68_3 : TF Try.prog 68 3 6 := TF.of (ft := 4) (k := 0) (by kernel_rfl)
instance Try.tg68_3 : TFt Try.prog 68 3 6 4 := TFt.of (k := 1) (by kernel_rfl)
instance Try.tf68_4 : TF Try.prog 68 4 7 := TF.of (ft := 63) (k := 0) (by kernel_rfl)
instance Try.tg68_4 : TFt Try.prog 68 4 7 63 := TFt.of (k := 1) (by kernel_rfl)
instance Try.tf68_5 : TF Try.prog 68 5 8 := TF.of (ft := 64) (k := 38) (by kernel_rfl)
instance Try.tg68_5 : TFt Try.prog 68 5 8 64 := TFt.of (k := 39) (by kernel_rfl)
instance Try.tf68_6 : TF Try.prog 68 6 47 := TF.of (ft := 66) (k := 2) (by kernel_rfl)
instance Try.tg68_6 : TFt Try.prog 68 6 47 66 := TFt.of (k := 3) (by kernel_rfl)
instance Try.tp68 : TP Try.prog 68 [(0, 4), (4, 1), (5, 1), (6, 1), (7, 1), (8, 39), (47, 3)] := TP.of (by kernel_rfl)
instance Try.tl72 : TL Try.prog 72 1 false := ⟨by kernel_rfl, by kernel_rfl⟩
instance Try.tb72 : TB Try.prog 72 24 := ⟨by kernel_rfl⟩
instance Try.tu72 : TU Try.prog 72 (.slice 3) := ⟨by kernel_rfl⟩
instance Try.tz72 : TZ Try.prog 72 [.slice none 0 0] := TZ.of (by kernel_rfl)
instance Try.tl76 : TL Try.prog 76 1 false := ⟨by kernel_rfl, by kernel_rfl⟩
instance Try.tb76 : TB Try.prog 76 24 := ⟨by kernel_rfl⟩
instance Try.tu76 : TU Try.prog 76 (.slice 80) := ⟨by kernel_rfl⟩
instance Try.tz76 : TZ Try.prog 76 [.slice none 0 0] := TZ.of (by kernel_rfl)
instance Try.tl79 : TL Try.prog 79 35 true := ⟨by kernel_rfl, by kernel_rfl⟩
instance Try.tb79 : TB Try.prog 79 296 := ⟨by kernel_rfl⟩
instance Try.tz79 : TZ Try.prog 79 [.int .i64 (0), .int .i64 (0), .int .i64 (0), .int .i64 (0), .int .i64 (0), .int .i64 (0), .int .i64 (0), .string ByteArray.empty, .string ByteArray.empty, .bool false, .int .i64 (0), .int .i64 (0), .int .i64 (0), .int .i64 (0), .int .i64 (0), .int .i64 (0), .int .i64 (0), .int .i64 (0), .int .i64 (0), .int .i64 (0), .int .i64 (0), .int .i64 (0), .int .i64 (0), .int .i64 (0), .int .i64 (0), .int .i64 (0), .int .i64 (0), .int .i64 (0), .int .i64 (0), .int .i64 (0), .int .i64 (0), .bool false, .int .i64 (0), .int .i64 (0), .int .i64 (0)] := TZ.of (by kernel_rfl)
instance Try.te79 : TE Try.prog 79 [.i, .i, .i, .i, .i, .i, .i, .s, .s, .b, .i, .i, .i, .i, .i, .i, .i, .i, .i, .i, .i, .i, .i, .i, .i, .i, .i, .i, .i, .i, .i, .b, .i, .i, .i] := ⟨by kernel_rfl, by kernel_rfl, by kernel_rfl⟩
instance Try.tf79_0 : TF Try.prog 79 0 0 := TF.of (ft := 3) (k := 0) (by kernel_rfl)
instance Try.tg79_0 : TFt Try.prog 79 0 0 3 := TFt.of (k := 1) (by kernel_rfl)
instance Try.tf79_1 : TF Try.prog 79 1 1 := TF.of (ft := 46) (k := 19) (by kernel_rfl)
instance Try.tg79_1 : TFt Try.prog 79 1 1 46 := TFt.of (k := 20) (by kernel_rfl)
instance Try.tf79_2 : TF Try.prog 79 2 21 := TF.of (ft := 37) (k := 12) (by kernel_rfl)
instance Try.tg79_2 : TFt Try.prog 79 2 21 37 := TFt.of (k := 13) (by kernel_rfl)
instance Try.tf79_3 : TF Try.prog 79 3 34 := TF.of (ft := 3) (k := 0) (by kernel_rfl)
instance Try.tg79_3 : TFt Try.prog 79 3 34 3 := TFt.of (k := 1) (by kernel_rfl)
instance Try.tp79 : TP Try.prog 79 [(0, 1), (1, 20), (21, 13), (34, 1)] := TP.of (by kernel_rfl)
instance Try.tl80 : TL Try.prog 80 35 true := ⟨by kernel_rfl, by kernel_rfl⟩
instance Try.tb80 : TB Try.prog 80 296 := ⟨by kernel_rfl⟩
instance Try.tz80 : TZ Try.prog 80 [.int .i64 (0), .int .i64 (0), .int .i64 (0), .int .i64 (0), .int .i64 (0), .int .i64 (0), .int .i64 (0), .string ByteArray.empty, .string ByteArray.empty, .bool false, .int .i64 (0), .int .i64 (0), .int .i64 (0), .int .i64 (0), .int .i64 (0), .int .i64 (0), .int .i64 (0), .int .i64 (0), .int .i64 (0), .int .i64 (0), .int .i64 (0), .int .i64 (0), .int .i64 (0), .int .i64 (0), .int .i64 (0), .int .i64 (0), .int .i64 (0), .int .i64 (0), .int .i64 (0), .int .i64 (0), .int .i64 (0), .bool false, .int .i64 (0), .int .i64 (0), .int .i64 (0)] := TZ.of (by kernel_rfl)
instance Try.te80 : TE Try.prog 80 [.i, .i, .i, .i, .i, .i, .i, .s, .s, .b, .i, .i, .i, .i, .i, .i, .i, .i, .i, .i, .i, .i, .i, .i, .i, .i, .i, .i, .i, .i, .i, .b, .i, .i, .i] := ⟨by kernel_rfl, by kernel_rfl, by kernel_rfl⟩
instance Try.tf80_0 : TF Try.prog 80 0 0 := TF.of (ft := 3) (k := 0) (by kernel_rfl)
instance Try.tg80_0 : TFt Try.prog 80 0 0 3 := TFt.of (k := 1) (by kernel_rfl)
instance Try.tf80_1 : TF Try.prog 80 1 1 := TF.of (ft := 46) (k := 19) (by kernel_rfl)
instance Try.tg80_1 : TFt Try.prog 80 1 1 46 := TFt.of (k := 20) (by kernel_rfl)
instance Try.tf80_2 : TF Try.prog 80 2 21 := TF.of (ft := 37) (k := 12) (by kernel_rfl)
instance Try.tg80_2 : TFt Try.prog 80 2 21 37 := TFt.of (k := 13) (by kernel_rfl)
instance Try.tf80_3 : TF Try.prog 80 3 34 := TF.of (ft := 3) (k := 0) (by kernel_rfl)
instance Try.tg80_3 : TFt Try.prog 80 3 34 3 := TFt.of (k := 1) (by kernel_rfl)
instance Try.tp80 : TP Try.prog 80 [(0, 1), (1, 20), (21, 13), (34, 1)] := TP.of (by kernel_rfl)
instance Try.tl88 : TL Try.prog 88 1 false := ⟨by kernel_rfl, by kernel_rfl⟩
instance Try.tb88 : TB Try.prog 88 8 := ⟨by kernel_rfl⟩
instance Try.tu88 : TU Try.prog 88 (.map 3 120) := ⟨by kernel_rfl⟩
instance Try.tz88 : TZ Try.prog 88 [.map none] := TZ.of (by kernel_rfl)
instance Try.tl89 : TL Try.prog 89 1 false := ⟨by kernel_rfl, by kernel_rfl⟩
instance Try.tb89 : TB Try.prog 89 24 := ⟨by kernel_rfl⟩
instance Try.tu89 : TU Try.prog 89 (.slice 133) := ⟨by kernel_rfl⟩
instance Try.tz89 : TZ Try.prog 89 [.slice none 0 0] := TZ.of (by kernel_rfl)
instance Try.tl90 : TL Try.prog 90 2 true := ⟨by kernel_rfl, by kernel_rfl⟩
instance Try.tb90 : TB Try.prog 90 32 := ⟨by kernel_rfl⟩
instance Try.tz90 : TZ Try.prog 90 [.map none, .slice none 0 0] := TZ.of (by kernel_rfl)
instance Try.tf90_0 : TF Try.prog 90 0 0 := TF.of (ft := 88) (k := 0) (by kernel_rfl)
instance Try.tg90_0 : TFt Try.prog 90 0 0 88 := TFt.of (k := 1) (by kernel_rfl)
instance Try.tf90_1 : TF Try.prog 90 1 1 := TF.of (ft := 89) (k := 0) (by kernel_rfl)
instance Try.tg90_1 : TFt Try.prog 90 1 1 89 := TFt.of (k := 1) (by kernel_rfl)
instance Try.tp90 : TP Try.prog 90 [(0, 1), (1, 1)] := TP.of (by kernel_rfl)
instance Try.tl91 : TL Try.prog 91 2 true := ⟨by kernel_rfl, by kernel_rfl⟩
instance Try.tb91 : TB Try.prog 91 32 := ⟨by kernel_rfl⟩
instance Try.tz91 : TZ Try.prog 91 [.map none, .slice none 0 0] := TZ.of (by kernel_rfl)
instance Try.tf91_0 : TF Try.prog 91 0 0 := TF.of (ft := 88) (k := 0) (by kernel_rfl)
instance Try.tg91_0 : TFt Try.prog 91 0 0 88 := TFt.of (k := 1) (by kernel_rfl)
instance Try.tf91_1 : TF Try.prog 91 1 1 := TF.of (ft := 89) (k := 0) (by kernel_rfl)
instance Try.tg91_1 : TFt Try.prog 91 1 1 89 := TFt.of (k := 1) (by kernel_rfl)
instance Try.tp91 : TP Try.prog 91 [(0, 1), (1, 1)] := TP.of (by kernel_rfl)
instance Try.tl94 : TL Try.prog 94 1 true := ⟨by kernel_rfl, by kernel_rfl⟩
instance Try.tb94 : TB Try.prog 94 24 := ⟨by kernel_rfl⟩
instance Try.tz94 : TZ Try.prog 94 [.slice none 0 0] := TZ.of (by kernel_rfl)
instance Try.tf94_0 : TF Try.prog 94 0 0 := TF.of (ft := 72) (k := 0) (by kernel_rfl)
instance Try.tg94_0 : TFt Try.prog 94 0 0 72 := TFt.of (k := 1) (by kernel_rfl)
instance Try.tp94 : TP Try.prog 94 [(0, 1)] := TP.of (by kernel_rfl)
instance Try.tl95 : TL Try.prog 95 1 true := ⟨by kernel_rfl, by kernel_rfl⟩
instance Try.tb95 : TB Try.prog 95 24 := ⟨by kernel_rfl⟩
instance Try.tz95 : TZ Try.prog 95 [.slice none 0 0] := TZ.of (by kernel_rfl)
instance Try.tf95_0 : TF Try.prog 95 0 0 := TF.of (ft := 72) (k := 0) (by kernel_rfl)
instance Try.tg95_0 : TFt Try.prog 95 0 0 72 := TFt.of (k := 1) (by kernel_rfl)
instance Try.tp95 : TP Try.prog 95 [(0, 1)] := TP.of (by kernel_rfl)
instance Try.tl97 : TL Try.prog 97 1 false := ⟨by kernel_rfl, by kernel_rfl⟩
instance Try.tb97 : TB Try.prog 97 8 := ⟨by kernel_rfl⟩
instance Try.tu97 : TU Try.prog 97 (.pointer 37) := ⟨by kernel_rfl⟩
instance Try.tz97 : TZ Try.prog 97 [.pointer none] := TZ.of (by kernel_rfl)
instance Try.tl99 : TL Try.prog 99 1 false := ⟨by kernel_rfl, by kernel_rfl⟩
instance Try.tb99 : TB Try.prog 99 24 := ⟨by kernel_rfl⟩
instance Try.tu99 : TU Try.prog 99 (.slice 34) := ⟨by kernel_rfl⟩
instance Try.tz99 : TZ Try.prog 99 [.slice none 0 0] := TZ.of (by kernel_rfl)
instance Try.tl102 : TL Try.prog 102 3 true := ⟨by kernel_rfl, by kernel_rfl⟩
instance Try.tb102 : TB Try.prog 102 24 := ⟨by kernel_rfl⟩
instance Try.tz102 : TZ Try.prog 102 [.pointer none, .int .i64 (0), .int .i64 (0)] := TZ.of (by kernel_rfl)
instance Try.tf102_0 : TF Try.prog 102 0 0 := TF.of (ft := 61) (k := 0) (by kernel_rfl)
instance Try.tg102_0 : TFt Try.prog 102 0 0 61 := TFt.of (k := 1) (by kernel_rfl)
instance Try.tf102_1 : TF Try.prog 102 1 1 := TF.of (ft := 3) (k := 0) (by kernel_rfl)
instance Try.tg102_1 : TFt Try.prog 102 1 1 3 := TFt.of (k := 1) (by kernel_rfl)
instance Try.tf102_2 : TF Try.prog 102 2 2 := TF.of (ft := 3) (k := 0) (by kernel_rfl)
instance Try.tg102_2 : TFt Try.prog 102 2 2 3 := TFt.of (k := 1) (by kernel_rfl)
instance Try.tp102 : TP Try.prog 102 [(0, 1), (1, 1), (2, 1)] := TP.of (by kernel_rfl)
instance Try.tl103 : TL Try.prog 103 3 true := ⟨by kernel_rfl, by kernel_rfl⟩
instance Try.tb103 : TB Try.prog 103 24 := ⟨by kernel_rfl⟩
instance Try.tz103 : TZ Try.prog 103 [.pointer none, .int .i64 (0), .int .i64 (0)] := TZ.of (by kernel_rfl)
instance Try.tf103_0 : TF Try.prog 103 0 0 := TF.of (ft := 61) (k := 0) (by kernel_rfl)
instance Try.tg103_0 : TFt Try.prog 103 0 0 61 := TFt.of (k := 1) (by kernel_rfl)
instance Try.tf103_1 : TF Try.prog 103 1 1 := TF.of (ft := 3) (k := 0) (by kernel_rfl)
instance Try.tg103_1 : TFt Try.prog 103 1 1 3 := TFt.of (k := 1) (by kernel_rfl)
instance Try.tf103_2 : TF Try.prog 103 2 2 := TF.of (ft := 3) (k := 0) (by kernel_rfl)
instance Try.tg103_2 : TFt Try.prog 103 2 2 3 := TFt.of (k := 1) (by kernel_rfl)
instance Try.tp103 : TP Try.prog 103 [(0, 1), (1, 1), (2, 1)] := TP.of (by kernel_rfl)
instance Try.tl105 : TL Try.prog 105 1 false := ⟨by kernel_rfl, by kernel_rfl⟩
instance Try.tb105 : TB Try.prog 105 24 := ⟨by kernel_rfl⟩
instance Try.tu105 : TU Try.prog 105 (.slice 5) := ⟨by kernel_rfl⟩
instance Try.tz105 : TZ Try.prog 105 [.slice none 0 0] := TZ.of (by kernel_rfl)
instance Try.tl120 : TL Try.prog 120 1 false := ⟨by kernel_rfl, by kernel_rfl⟩
instance Try.tb120 : TB Try.prog 120 8 := ⟨by kernel_rfl⟩
instance Try.tu120 : TU Try.prog 120 (.pointer 123) := ⟨by kernel_rfl⟩
instance Try.tz120 : TZ Try.prog 120 [.pointer none] := TZ.of (by kernel_rfl)
instance Try.tl122 : TL Try.prog 122 2 true := ⟨by kernel_rfl, by kernel_rfl⟩
instance Try.tb122 : TB Try.prog 122 32 := ⟨by kernel_rfl⟩
instance Try.tz122 : TZ Try.prog 122 [.slice none 0 0, .int .i64 (0)] := TZ.of (by kernel_rfl)
instance Try.tf122_0 : TF Try.prog 122 0 0 := TF.of (ft := 105) (k := 0) (by kernel_rfl)
instance Try.tg122_0 : TFt Try.prog 122 0 0 105 := TFt.of (k := 1) (by kernel_rfl)
instance Try.tf122_1 : TF Try.prog 122 1 1 := TF.of (ft := 3) (k := 0) (by kernel_rfl)
instance Try.tg122_1 : TFt Try.prog 122 1 1 3 := TFt.of (k := 1) (by kernel_rfl)
instance Try.tp122 : TP Try.prog 122 [(0, 1), (1, 1)] := TP.of (by kernel_rfl)
instance Try.tl123 : TL Try.prog 123 2 true := ⟨by kernel_rfl, by kernel_rfl⟩
instance Try.tb123 : TB Try.prog 123 32 := ⟨by kernel_rfl⟩
instance Try.tz123 : TZ Try.prog 123 [.slice none 0 0, .int .i64 (0)] := TZ.of (by kernel_rfl)
instance Try.tf123_0 : TF Try.prog 123 0 0 := TF.of (ft := 105) (k := 0) (by kernel_rfl)
instance Try.tg123_0 : TFt Try.prog 123 0 0 105 := TFt.of (k := 1) (by kernel_rfl)
instance Try.tf123_1 : TF Try.prog 123 1 1 := TF.of (ft := 3) (k := 0) (by kernel_rfl)
instance Try.tg123_1 : TFt Try.prog 123 1 1 3 := TFt.of (k := 1) (by kernel_rfl)
instance Try.tp123 : TP Try.prog 123 [(0, 1), (1, 1)] := TP.of (by kernel_rfl)
instance Try.tl125 : TL Try.prog 125 1 false := ⟨by kernel_rfl, by kernel_rfl⟩
instance Try.tb125 : TB Try.prog 125 8 := ⟨by kernel_rfl⟩
instance Try.tu125 : TU Try.prog 125 (.pointer 127) := ⟨by kernel_rfl⟩
instance Try.tz125 : TZ Try.prog 125 [.pointer none] := TZ.of (by kernel_rfl)
instance Try.tl126 : TL Try.prog 126 6 true := ⟨by kernel_rfl, by kernel_rfl⟩
instance Try.tb126 : TB Try.prog 126 40 := ⟨by kernel_rfl⟩
instance Try.tz126 : TZ Try.prog 126 [.slice none 0 0, .int .i64 (0), .bool false, .bool false, .bool false, .bool false] := TZ.of (by kernel_rfl)
instance Try.tf126_0 : TF Try.prog 126 0 0 := TF.of (ft := 105) (k := 0) (by kernel_rfl)
instance Try.tg126_0 : TFt Try.prog 126 0 0 105 := TFt.of (k := 1) (by kernel_rfl)
instance Try.tf126_1 : TF Try.prog 126 1 1 := TF.of (ft := 3) (k := 0) (by kernel_rfl)
instance Try.tg126_1 : TFt Try.prog 126 1 1 3 := TFt.of (k := 1) (by kernel_rfl)
instance Try.tf126_2 : TF Try.prog 126 2 2 := TF.of (ft := 4) (k := 0) (by kernel_rfl)
instance Try.tg126_2 : TFt Try.prog 126 2 2 4 := TFt.of (k := 1) (by kernel_rfl)
instance Try.tf126_3 : TF Try.prog 126 3 3 := TF.of (ft := 4) (k := 0) (by kernel_rfl)
instance Try.tg126_3 : TFt Try.prog 126 3 3 4 := TFt.of (k := 1) (by kernel_rfl)
instance Try.tf126_4 : TF Try.prog 126 4 4 := TF.of (ft := 4) (k := 0) (by kernel_rfl)
instance Try.tg126_4 : TFt Try.prog 126 4 4 4 := TFt.of (k := 1) (by kernel_rfl)
instance Try.tf126_5 : TF Try.prog 126 5 5 := TF.of (ft := 4) (k := 0) (by kernel_rfl)
instance Try.tg126_5 : TFt Try.prog 126 5 5 4 := TFt.of (k := 1) (by kernel_rfl)
instance Try.tp126 : TP Try.prog 126 [(0, 1), (1, 1), (2, 1), (3, 1), (4, 1), (5, 1)] := TP.of (by kernel_rfl)
instance Try.tl127 : TL Try.prog 127 6 true := ⟨by kernel_rfl, by kernel_rfl⟩
instance Try.tb127 : TB Try.prog 127 40 := ⟨by kernel_rfl⟩
instance Try.tz127 : TZ Try.prog 127 [.slice none 0 0, .int .i64 (0), .bool false, .bool false, .bool false, .bool false] := TZ.of (by kernel_rfl)
instance Try.tf127_0 : TF Try.prog 127 0 0 := TF.of (ft := 105) (k := 0) (by kernel_rfl)
instance Try.tg127_0 : TFt Try.prog 127 0 0 105 := TFt.of (k := 1) (by kernel_rfl)
instance Try.tf127_1 : TF Try.prog 127 1 1 := TF.of (ft := 3) (k := 0) (by kernel_rfl)
instance Try.tg127_1 : TFt Try.prog 127 1 1 3 := TFt.of (k := 1) (by kernel_rfl)
instance Try.tf127_2 : TF Try.prog 127 2 2 := TF.of (ft := 4) (k := 0) (by kernel_rfl)
instance Try.tg127_2 : TFt Try.prog 127 2 2 4 := TFt.of (k := 1) (by kernel_rfl)
instance Try.tf127_3 : TF Try.prog 127 3 3 := TF.of (ft := 4) (k := 0) (by kernel_rfl)
instance Try.tg127_3 : TFt Try.prog 127 3 3 4 := TFt.of (k := 1) (by kernel_rfl)
instance Try.tf127_4 : TF Try.prog 127 4 4 := TF.of (ft := 4) (k := 0) (by kernel_rfl)
instance Try.tg127_4 : TFt Try.prog 127 4 4 4 := TFt.of (k := 1) (by kernel_rfl)
instance Try.tf127_5 : TF Try.prog 127 5 5 := TF.of (ft := 4) (k := 0) (by kernel_rfl)
instance Try.tg127_5 : TFt Try.prog 127 5 5 4 := TFt.of (k := 1) (by kernel_rfl)
instance Try.tp127 : TP Try.prog 127 [(0, 1), (1, 1), (2, 1), (3, 1), (4, 1), (5, 1)] := TP.of (by kernel_rfl)
instance Try.tl129 : TL Try.prog 129 1 false := ⟨by kernel_rfl, by kernel_rfl⟩
instance Try.tb129 : TB Try.prog 129 8 := ⟨by kernel_rfl⟩
instance Try.tu129 : TU Try.prog 129 (.pointer 80) := ⟨by kernel_rfl⟩
instance Try.tz129 : TZ Try.prog 129 [.pointer none] := TZ.of (by kernel_rfl)
instance Try.tl131 : TL Try.prog 131 1 false := ⟨by kernel_rfl, by kernel_rfl⟩
instance Try.tb131 : TB Try.prog 131 8 := ⟨by kernel_rfl⟩
instance Try.tu131 : TU Try.prog 131 (.pointer 133) := ⟨by kernel_rfl⟩
instance Try.tz131 : TZ Try.prog 131 [.pointer none] := TZ.of (by kernel_rfl)
instance Try.tl132 : TL Try.prog 132 2 true := ⟨by kernel_rfl, by kernel_rfl⟩
instance Try.tb132 : TB Try.prog 132 16 := ⟨by kernel_rfl⟩
instance Try.tz132 : TZ Try.prog 132 [.int .i64 (0), .int .i64 (0)] := TZ.of (by kernel_rfl)
instance Try.te132 : TE Try.prog 132 [.i, .i] := ⟨by kernel_rfl, by kernel_rfl, by kernel_rfl⟩
instance Try.tf132_0 : TF Try.prog 132 0 0 := TF.of (ft := 3) (k := 0) (by kernel_rfl)
instance Try.tg132_0 : TFt Try.prog 132 0 0 3 := TFt.of (k := 1) (by kernel_rfl)
instance Try.tf132_1 : TF Try.prog 132 1 1 := TF.of (ft := 3) (k := 0) (by kernel_rfl)
instance Try.tg132_1 : TFt Try.prog 132 1 1 3 := TFt.of (k := 1) (by kernel_rfl)
instance Try.tp132 : TP Try.prog 132 [(0, 1), (1, 1)] := TP.of (by kernel_rfl)
instance Try.tl133 : TL Try.prog 133 2 true := ⟨by kernel_rfl, by kernel_rfl⟩
instance Try.tb133 : TB Try.prog 133 16 := ⟨by kernel_rfl⟩
instance Try.tz133 : TZ Try.prog 133 [.int .i64 (0), .int .i64 (0)] := TZ.of (by kernel_rfl)
instance Try.te133 : TE Try.prog 133 [.i, .i] := ⟨by kernel_rfl, by kernel_rfl, by kernel_rfl⟩
instance Try.tf133_0 : TF Try.prog 133 0 0 := TF.of (ft := 3) (k := 0) (by kernel_rfl)
instance Try.tg133_0 : TFt Try.prog 133 0 0 3 := TFt.of (k := 1) (by kernel_rfl)
instance Try.tf133_1 : TF Try.prog 133 1 1 := TF.of (ft := 3) (k := 0) (by kernel_rfl)
instance Try.tg133_1 : TFt Try.prog 133 1 1 3 := TFt.of (k := 1) (by kernel_rfl)
instance Try.tp133 : TP Try.prog 133 [(0, 1), (1, 1)] := TP.of (by kernel_rfl)
instance Try.tl135 : TL Try.prog 135 4 true := ⟨by kernel_rfl, by kernel_rfl⟩
instance Try.tb135 : TB Try.prog 135 4 := ⟨by kernel_rfl⟩
instance Try.tu135 : TU Try.prog 135 (.array 4 4) := ⟨by kernel_rfl⟩
instance Try.tz135 : TZ Try.prog 135 [.bool false, .bool false, .bool false, .bool false] := TZ.of (by kernel_rfl)
instance Try.te135 : TE Try.prog 135 [.b, .b, .b, .b] := ⟨by kernel_rfl, by kernel_rfl, by kernel_rfl⟩
instance Try.tl140 : TL Try.prog 140 1 false := ⟨by kernel_rfl, by kernel_rfl⟩
instance Try.tb140 : TB Try.prog 140 8 := ⟨by kernel_rfl⟩
instance Try.tu140 : TU Try.prog 140 (.int .u64) := ⟨by kernel_rfl⟩
instance Try.tz140 : TZ Try.prog 140 [.int .u64 (0)] := TZ.of (by kernel_rfl)
instance Try.tl141 : TL Try.prog 141 1 false := ⟨by kernel_rfl, by kernel_rfl⟩
instance Try.tb141 : TB Try.prog 141 4 := ⟨by kernel_rfl⟩
instance Try.tu141 : TU Try.prog 141 (.int .u32) := ⟨by kernel_rfl⟩
instance Try.tz141 : TZ Try.prog 141 [.int .u32 (0)] := TZ.of (by kernel_rfl)
instance Try.tl144 : TL Try.prog 144 1 false := ⟨by kernel_rfl, by kernel_rfl⟩
instance Try.tb144 : TB Try.prog 144 8 := ⟨by kernel_rfl⟩
instance Try.tu144 : TU Try.prog 144 (.pointer 3) := ⟨by kernel_rfl⟩
instance Try.tz144 : TZ Try.prog 144 [.pointer none] := TZ.of (by kernel_rfl)
instance Try.tl146 : TL Try.prog 146 1 false := ⟨by kernel_rfl, by kernel_rfl⟩
instance Try.tb146 : TB Try.prog 146 8 := ⟨by kernel_rfl⟩
instance Try.tu146 : TU Try.prog 146 (.pointer 46) := ⟨by kernel_rfl⟩
instance Try.tz146 : TZ Try.prog 146 [.pointer none] := TZ.of (by kernel_rfl)
instance Try.tl151 : TL Try.prog 151 1 false := ⟨by kernel_rfl, by kernel_rfl⟩
instance Try.tb151 : TB Try.prog 151 8 := ⟨by kernel_rfl⟩
instance Try.tu151 : TU Try.prog 151 (.int .i64) := ⟨by kernel_rfl⟩
instance Try.tz151 : TZ Try.prog 151 [.int .i64 (0)] := TZ.of (by kernel_rfl)
instance Try.tl161 : TL Try.prog 161 1 false := ⟨by kernel_rfl, by kernel_rfl⟩
instance Try.tb161 : TB Try.prog 161 8 := ⟨by kernel_rfl⟩
instance Try.tu161 : TU Try.prog 161 (.int .u64) := ⟨by kernel_rfl⟩
instance Try.tz161 : TZ Try.prog 161 [.int .u64 (0)] := TZ.of (by kernel_rfl)
instance Try.tl162 : TL Try.prog 162 1 false := ⟨by kernel_rfl, by kernel_rfl⟩
instance Try.tb162 : TB Try.prog 162 24 := ⟨by kernel_rfl⟩
instance Try.tu162 : TU Try.prog 162 (.slice 105) := ⟨by kernel_rfl⟩
instance Try.tz162 : TZ Try.prog 162 [.slice none 0 0] := TZ.of (by kernel_rfl)
instance Try.tl166 : TL Try.prog 166 1 false := ⟨by kernel_rfl, by kernel_rfl⟩
instance Try.tb166 : TB Try.prog 166 8 := ⟨by kernel_rfl⟩
instance Try.tu166 : TU Try.prog 166 (.pointer 9) := ⟨by kernel_rfl⟩
instance Try.tz166 : TZ Try.prog 166 [.pointer none] := TZ.of (by kernel_rfl)
instance Try.tl168 : TL Try.prog 168 1 false := ⟨by kernel_rfl, by kernel_rfl⟩
instance Try.tb168 : TB Try.prog 168 8 := ⟨by kernel_rfl⟩
instance Try.tu168 : TU Try.prog 168 (.pointer 4) := ⟨by kernel_rfl⟩
instance Try.tz168 : TZ Try.prog 168 [.pointer none] := TZ.of (by kernel_rfl)
instance Try.tl170 : TL Try.prog 170 1 false := ⟨by kernel_rfl, by kernel_rfl⟩
instance Try.tb170 : TB Try.prog 170 8 := ⟨by kernel_rfl⟩
instance Try.tu170 : TU Try.prog 170 (.pointer 44) := ⟨by kernel_rfl⟩
instance Try.tz170 : TZ Try.prog 170 [.pointer none] := TZ.of (by kernel_rfl)
instance Try.tl172 : TL Try.prog 172 1 false := ⟨by kernel_rfl, by kernel_rfl⟩
instance Try.tb172 : TB Try.prog 172 8 := ⟨by kernel_rfl⟩
instance Try.tu172 : TU Try.prog 172 (.pointer 34) := ⟨by kernel_rfl⟩
instance Try.tz172 : TZ Try.prog 172 [.pointer none] := TZ.of (by kernel_rfl)
instance Try.tl174 : TL Try.prog 174 1 false := ⟨by kernel_rfl, by kernel_rfl⟩
instance Try.tb174 : TB Try.prog 174 8 := ⟨by kernel_rfl⟩
instance Try.tu174 : TU Try.prog 174 (.int .u64) := ⟨by kernel_rfl⟩
instance Try.tz174 : TZ Try.prog 174 [.int .u64 (0)] := TZ.of (by kernel_rfl)
instance Try.tl180 : TL Try.prog 180 1 false := ⟨by kernel_rfl, by kernel_rfl⟩
instance Try.tb180 : TB Try.prog 180 24 := ⟨by kernel_rfl⟩
instance Try.tu180 : TU Try.prog 180 (.slice 144) := ⟨by kernel_rfl⟩
instance Try.tz180 : TZ Try.prog 180 [.slice none 0 0] := TZ.of (by kernel_rfl)
instance Try.tl181 : TL Try.prog 181 1 false := ⟨by kernel_rfl, by kernel_rfl⟩
instance Try.tb181 : TB Try.prog 181 8 := ⟨by kernel_rfl⟩
instance Try.tu181 : TU Try.prog 181 (.pointer 174) := ⟨by kernel_rfl⟩
instance Try.tz181 : TZ Try.prog 181 [.pointer none] := TZ.of (by kernel_rfl)
instance Try.tl185 : TL Try.prog 185 4 true := ⟨by kernel_rfl, by kernel_rfl⟩
instance Try.tb185 : TB Try.prog 185 40 := ⟨by kernel_rfl⟩
instance Try.tz185 : TZ Try.prog 185 [.pointer none, .pointer none, .pointer none, .string ByteArray.empty] := TZ.of (by kernel_rfl)
instance Try.tf185_0 : TF Try.prog 185 0 0 := TF.of (ft := 17) (k := 0) (by kernel_rfl)
instance Try.tg185_0 : TFt Try.prog 185 0 0 17 := TFt.of (k := 1) (by kernel_rfl)
instance Try.tf185_1 : TF Try.prog 185 1 1 := TF.of (ft := 17) (k := 0) (by kernel_rfl)
instance Try.tg185_1 : TFt Try.prog 185 1 1 17 := TFt.of (k := 1) (by kernel_rfl)
instance Try.tf185_2 : TF Try.prog 185 2 2 := TF.of (ft := 17) (k := 0) (by kernel_rfl)
instance Try.tg185_2 : TFt Try.prog 185 2 2 17 := TFt.of (k := 1) (by kernel_rfl)
instance Try.tf185_3 : TF Try.prog 185 3 3 := TF.of (ft := 9) (k := 0) (by kernel_rfl)
instance Try.tg185_3 : TFt Try.prog 185 3 3 9 := TFt.of (k := 1) (by kernel_rfl)
instance Try.tp185 : TP Try.prog 185 [(0, 1), (1, 1), (2, 1), (3, 1)] := TP.of (by kernel_rfl)
instance Try.tl186 : TL Try.prog 186 4 true := ⟨by kernel_rfl, by kernel_rfl⟩
instance Try.tb186 : TB Try.prog 186 40 := ⟨by kernel_rfl⟩
instance Try.tz186 : TZ Try.prog 186 [.pointer none, .pointer none, .pointer none, .string ByteArray.empty] := TZ.of (by kernel_rfl)
instance Try.tf186_0 : TF Try.prog 186 0 0 := TF.of (ft := 17) (k := 0) (by kernel_rfl)
instance Try.tg186_0 : TFt Try.prog 186 0 0 17 := TFt.of (k := 1) (by kernel_rfl)
instance Try.tf186_1 : TF Try.prog 186 1 1 := TF.of (ft := 17) (k := 0) (by kernel_rfl)
instance Try.tg186_1 : TFt Try.prog 186 1 1 17 := TFt.of (k := 1) (by kernel_rfl)
instance Try.tf186_2 : TF Try.prog 186 2 2 := TF.of (ft := 17) (k := 0) (by kernel_rfl)
instance Try.tg186_2 : TFt Try.prog 186 2 2 17 := TFt.of (k := 1) (by kernel_rfl)
instance Try.tf186_3 : TF Try.prog 186 3 3 := TF.of (ft := 9) (k := 0) (by kernel_rfl)
instance Try.tg186_3 : TFt Try.prog 186 3 3 9 := TFt.of (k := 1) (by kernel_rfl)
instance Try.tp186 : TP Try.prog 186 [(0, 1), (1, 1), (2, 1), (3, 1)] := TP.of (by kernel_rfl)
instance Try.tl187 : TL Try.prog 187 0 true := ⟨by kernel_rfl, by kernel_rfl⟩
instance Try.tb187 : TB Try.prog 187 0 := ⟨by kernel_rfl⟩
instance Try.tu187 : TU Try.prog 187 (.array 0 16) := ⟨by kernel_rfl⟩
instance Try.tz187 : TZ Try.prog 187 [] := TZ.of (by kernel_rfl)
instance Try.tl188 : TL Try.prog 188 0 true := ⟨by kernel_rfl, by kernel_rfl⟩
instance Try.tb188 : TB Try.prog 188 0 := ⟨by kernel_rfl⟩
instance Try.tz188 : TZ Try.prog 188 [] := TZ.of (by kernel_rfl)
instance Try.tp188 : TP Try.prog 188 [(0, 0)] := TP.of (by kernel_rfl)
instance Try.tl189 : TL Try.prog 189 0 true := ⟨by kernel_rfl, by kernel_rfl⟩
instance Try.tb189 : TB Try.prog 189 0 := ⟨by kernel_rfl⟩
instance Try.tz189 : TZ Try.prog 189 [] := TZ.of (by kernel_rfl)
instance Try.tp189 : TP Try.prog 189 [(0, 0)] := TP.of (by kernel_rfl)
instance Try.tl190 : TL Try.prog 190 1 false := ⟨by kernel_rfl, by kernel_rfl⟩
instance Try.tb190 : TB Try.prog 190 1 := ⟨by kernel_rfl⟩
instance Try.tu190 : TU Try.prog 190 (.int .u8) := ⟨by kernel_rfl⟩
instance Try.tz190 : TZ Try.prog 190 [.int .u8 (0)] := TZ.of (by kernel_rfl)
instance Try.tl191 : TL Try.prog 191 1 false := ⟨by kernel_rfl, by kernel_rfl⟩
instance Try.tb191 : TB Try.prog 191 1 := ⟨by kernel_rfl⟩
instance Try.tu191 : TU Try.prog 191 (.int .u8) := ⟨by kernel_rfl⟩
instance Try.tz191 : TZ Try.prog 191 [.int .u8 (0)] := TZ.of (by kernel_rfl)
instance Try.tl193 : TL Try.prog 193 1 false := ⟨by kernel_rfl, by kernel_rfl⟩
instance Try.tb193 : TB Try.prog 193 8 := ⟨by kernel_rfl⟩
instance Try.tu193 : TU Try.prog 193 (.pointer 5) := ⟨by kernel_rfl⟩
instance Try.tz193 : TZ Try.prog 193 [.pointer none] := TZ.of (by kernel_rfl)
instance Try.tl194 : TL Try.prog 194 1 false := ⟨by kernel_rfl, by kernel_rfl⟩
instance Try.tb194 : TB Try.prog 194 4 := ⟨by kernel_rfl⟩
instance Try.tu194 : TU Try.prog 194 (.int .i32) := ⟨by kernel_rfl⟩
instance Try.tz194 : TZ Try.prog 194 [.int .i32 (0)] := TZ.of (by kernel_rfl)
instance Try.tl195 : TL Try.prog 195 1 false := ⟨by kernel_rfl, by kernel_rfl⟩
instance Try.tb195 : TB Try.prog 195 4 := ⟨by kernel_rfl⟩
instance Try.tu195 : TU Try.prog 195 (.int .i32) := ⟨by kernel_rfl⟩
instance Try.tz195 : TZ Try.prog 195 [.int .i32 (0)] := TZ.of (by kernel_rfl)
instance Try.tl196 : TL Try.prog 196 11 true := ⟨by kernel_rfl, by kernel_rfl⟩
instance Try.tb196 : TB Try.prog 196 48 := ⟨by kernel_rfl⟩
instance Try.tz196 : TZ Try.prog 196 [.int .u64 (0), .int .u64 (0), .int .u32 (0), .int .u8 (0), .int .u8 (0), .int .u8 (0), .int .u8 (0), .nilFunc, .pointer none, .int .i32 (0), .int .i32 (0)] := TZ.of (by kernel_rfl)
instance Try.tf196_0 : TF Try.prog 196 0 0 := TF.of (ft := 12) (k := 0) (by kernel_rfl)
instance Try.tg196_0 : TFt Try.prog 196 0 0 12 := TFt.of (k := 1) (by kernel_rfl)
instance Try.tf196_1 : TF Try.prog 196 1 1 := TF.of (ft := 12) (k := 0) (by kernel_rfl)
instance Try.tg196_1 : TFt Try.prog 196 1 1 12 := TFt.of (k := 1) (by kernel_rfl)
instance Try.tf196_2 : TF Try.prog 196 2 2 := TF.of (ft := 141) (k := 0) (by kernel_rfl)
instance Try.tg196_2 : TFt Try.prog 196 2 2 141 := TFt.of (k := 1) (by kernel_rfl)
instance Try.tf196_3 : TF Try.prog 196 3 3 := TF.of (ft := 190) (k := 0) (by kernel_rfl)
instance Try.tg196_3 : TFt Try.prog 196 3 3 190 := TFt.of (k := 1) (by kernel_rfl)
instance Try.tf196_4 : TF Try.prog 196 4 4 := TF.of (ft := 5) (k := 0) (by kernel_rfl)
instance Try.tg196_4 : TFt Try.prog 196 4 4 5 := TFt.of (k := 1) (by kernel_rfl)
instance Try.tf196_5 : TF Try.prog 196 5 5 := TF.of (ft := 5) (k := 0) (by kernel_rfl)
instance Try.tg196_5 : TFt Try.prog 196 5 5 5 := TFt.of (k := 1) (by kernel_rfl)
instance Try.tf196_6 : TF Try.prog 196 6 6 := TF.of (ft := 191) (k := 0) (by kernel_rfl)
instance Try.tg196_6 : TFt Try.prog 196 6 6 191 := TFt.of (k := 1) (by kernel_rfl)
instance Try.tf196_7 : TF Try.prog 196 7 7 := TF.of (ft := 192) (k := 0) (by kernel_rfl)
instance Try.tg196_7 : TFt Try.prog 196 7 7 192 := TFt.of (k := 1) (by kernel_rfl)
instance Try.tf196_8 : TF Try.prog 196 8 8 := TF.of (ft := 193) (k := 0) (by kernel_rfl)
instance Try.tg196_8 : TFt Try.prog 196 8 8 193 := TFt.of (k := 1) (by kernel_rfl)
instance Try.tf196_9 : TF Try.prog 196 9 9 := TF.of (ft := 194) (k := 0) (by kernel_rfl)
instance Try.tg196_9 : TFt Try.prog 196 9 9 194 := TFt.of (k := 1) (by kernel_rfl)
instance Try.tf196_10 : TF Try.prog 196 10 10 := TF.of (ft := 195) (k := 0) (by kernel_rfl)
instance Try.tg196_10 : TFt Try.prog 196 10 10 195 := TFt.of (k := 1) (by kernel_rfl)
instance Try.tp196 : TP Try.prog 196 [(0, 1), (1, 1), (2, 1), (3, 1), (4, 1), (5, 1), (6, 1), (7, 1), (8, 1), (9, 1), (10, 1)] := TP.of (by kernel_rfl)
instance Try.tl197 : TL Try.prog 197 11 true := ⟨by kernel_rfl, by kernel_rfl⟩
instance Try.tb197 : TB Try.prog 197 48 := ⟨by kernel_rfl⟩
instance Try.tz197 : TZ Try.prog 197 [.int .u64 (0), .int .u64 (0), .int .u32 (0), .int .u8 (0), .int .u8 (0), .int .u8 (0), .int .u8 (0), .nilFunc, .pointer none, .int .i32 (0), .int .i32 (0)] := TZ.of (by kernel_rfl)
instance Try.tf197_0 : TF Try.prog 197 0 0 := TF.of (ft := 12) (k := 0) (by kernel_rfl)
instance Try.tg197_0 : TFt Try.prog 197 0 0 12 := TFt.of (k := 1) (by kernel_rfl)
instance Try.tf197_1 : TF Try.prog 197 1 1 := TF.of (ft := 12) (k := 0) (by kernel_rfl)
instance Try.tg197_1 : TFt Try.prog 197 1 1 12 := TFt.of (k := 1) (by kernel_rfl)
instance Try.tf197_2 : TF Try.prog 197 2 2 := TF.of (ft := 141) (k := 0) (by kernel_rfl)
instance Try.tg197_2 : TFt Try.prog 197 2 2 141 := TFt.of (k := 1) (by kernel_rfl)
instance Try.tf197_3 : TF Try.prog 197 3 3 := TF.of (ft := 190) (k := 0) (by kernel_rfl)
instance Try.tg197_3 : TFt Try.prog 197 3 3 190 := TFt.of (k := 1) (by kernel_rfl)
instance Try.tf197_4 : TF Try.prog 197 4 4 := TF.of (ft := 5) (k := 0) (by kernel_rfl)
instance Try.tg197_4 : TFt Try.prog 197 4 4 5 := TFt.of (k := 1) (by kernel_rfl)
instance Try.tf197_5 : TF Try.prog 197 5 5 := TF.of (ft := 5) (k := 0) (by kernel_rfl)
instance Try.tg197_5 : TFt Try.prog 197 5 5 5 := TFt.of (k := 1) (by kernel_rfl)
instance Try.tf197_6 : TF Try.prog 197 6 6 := TF.of (ft := 191) (k := 0) (by kernel_rfl)
instance Try.tg197_6 : TFt Try.prog 197 6 6 191 := TFt.of (k := 1) (by kernel_rfl)
instance Try.tf197_7 : TF Try.prog 197 7 7 := TF.of (ft := 192) (k := 0) (by kernel_rfl)
instance Try.tg197_7 : TFt Try.prog 197 7 7 192 := TFt.of (k := 1) (by kernel_rfl)
instance Try.tf197_8 : TF Try.prog 197 8 8 := TF.of (ft := 193) (k := 0) (by kernel_rfl)
instance Try.tg197_8 : TFt Try.prog 197 8 8 193 := TFt.of (k := 1) (by kernel_rfl)
instance Try.tf197_9 : TF Try.prog 197 9 9 := TF.of (ft := 194) (k := 0) (by kernel_rfl)
instance Try.tg197_9 : TFt Try.prog 197 9 9 194 := TFt.of (k := 1) (by kernel_rfl)
instance Try.tf197_10 : TF Try.prog 197 10 10 := TF.of (ft := 195) (k := 0) (by kernel_rfl)
instance Try.tg197_10 : TFt Try.prog 197 10 10 195 := TFt.of (k := 1) (by kernel_rfl)
instance Try.tp197 : TP Try.prog 197 [(0, 1), (1, 1), (2, 1), (3, 1), (4, 1), (5, 1), (6, 1), (7, 1), (8, 1), (9, 1), (10, 1)] := TP.of (by kernel_rfl)
instance Try.en3 : Enters Try.prog 3 := ⟨⟨_, Try.func3, by kernel_rfl, by kernel_rfl⟩⟩
instance Try.en4 : Enters Try.prog 4 := ⟨⟨_, Try.func4, by kernel_rfl, by kernel_rfl⟩⟩
instance Try.en5 : Enters Try.prog 5 := ⟨⟨_, Try.func5, by kernel_rfl, by kernel_rfl⟩⟩
instance Try.en6 : Enters Try.prog 6 := ⟨⟨_, Try.func6, by kernel_rfl, by kernel_rfl⟩⟩
instance Try.en7 : Enters Try.prog 7 := ⟨⟨_, Try.func7, by kernel_rfl, by kernel_rfl⟩⟩
instance Try.en8 : Enters Try.prog 8 := ⟨⟨_, Try.func8, by kernel_rfl, by kernel_rfl⟩⟩
instance Try.en9 : Enters Try.prog 9 := ⟨⟨_, Try.func9, by kernel_rfl, by kernel_rfl⟩⟩
instance Try.en10 : Enters Try.prog 10 := ⟨⟨_, Try.func10, by kernel_rfl, by kernel_rfl⟩⟩
instance Try.en11 : Enters Try.prog 11 := ⟨⟨_, Try.func11, by kernel_rfl, by kernel_rfl⟩⟩
instance Try.en12 : Enters Try.prog 12 := ⟨⟨_, Try.func12, by kernel_rfl, by kernel_rfl⟩⟩
instance Try.en13 : Enters Try.prog 13 := ⟨⟨_, Try.func13, by kernel_rfl, by kernel_rfl⟩⟩
instance Try.en14 : Enters Try.prog 14 := ⟨⟨_, Try.func14, by kernel_rfl, by kernel_rfl⟩⟩
instance Try.en15 : Enters Try.prog 15 := ⟨⟨_, Try.func15, by kernel_rfl, by kernel_rfl⟩⟩
instance Try.en16 : Enters Try.prog 16 := ⟨⟨_, Try.func16, by kernel_rfl, by kernel_rfl⟩⟩
instance Try.en17 : Enters Try.prog 17 := ⟨⟨_, Try.func17, by kernel_rfl, by kernel_rfl⟩⟩
instance Try.en18 : Enters Try.prog 18 := ⟨⟨_, Try.func18, by kernel_rfl, by kernel_rfl⟩⟩
instance Try.en19 : Enters Try.prog 19 := ⟨⟨_, Try.func19, by kernel_rfl, by kernel_rfl⟩⟩
instance Try.en20 : Enters Try.prog 20 := ⟨⟨_, Try.func20, by kernel_rfl, by kernel_rfl⟩⟩
instance Try.en21 : Enters Try.prog 21 := ⟨⟨_, Try.func21, by kernel_rfl, by kernel_rfl⟩⟩
instance Try.en22 : Enters Try.prog 22 := ⟨⟨_, Try.func22, by kernel_rfl, by kernel_rfl⟩⟩
instance Try.en23 : Enters Try.prog 23 := ⟨⟨_, Try.func23, by kernel_rfl, by kernel_rfl⟩⟩
instance Try.en24 : Enters Try.prog 24 := ⟨⟨_, Try.func24, by kernel_rfl, by kernel_rfl⟩⟩
instance Try.en25 : Enters Try.prog 25 := ⟨⟨_, Try.func25, by kernel_rfl, by kernel_rfl⟩⟩
instance Try.en26 : Enters Try.prog 26 := ⟨⟨_, Try.func26, by kernel_rfl, by kernel_rfl⟩⟩
instance Try.en27 : Enters Try.prog 27 := ⟨⟨_, Try.func27, by kernel_rfl, by kernel_rfl⟩⟩
instance Try.en28 : Enters Try.prog 28 := ⟨⟨_, Try.func28, by kernel_rfl, by kernel_rfl⟩⟩
instance Try.en29 : Enters Try.prog 29 := ⟨⟨_, Try.func29, by kernel_rfl, by kernel_rfl⟩⟩
instance Try.en30 : Enters Try.prog 30 := ⟨⟨_, Try.func30, by kernel_rfl, by kernel_rfl⟩⟩
instance Try.en31 : Enters Try.prog 31 := ⟨⟨_, Try.func31, by kernel_rfl, by kernel_rfl⟩⟩
instance Try.en32 : Enters Try.prog 32 := ⟨⟨_, Try.func32, by kernel_rfl, by kernel_rfl⟩⟩
instance Try.en33 : Enters Try.prog 33 := ⟨⟨_, Try.func33, by kernel_rfl, by kernel_rfl⟩⟩
instance Try.en34 : Enters Try.prog 34 := ⟨⟨_, Try.func34, by kernel_rfl, by kernel_rfl⟩⟩
instance Try.en35 : Enters Try.prog 35 := ⟨⟨_, Try.func35, by kernel_rfl, by kernel_rfl⟩⟩
instance Try.en36 : Enters Try.prog 36 := ⟨⟨_, Try.func36, by kernel_rfl, by kernel_rfl⟩⟩
instance Try.en37 : Enters Try.prog 37 := ⟨⟨_, Try.func37, by kernel_rfl, by kernel_rfl⟩⟩
instance Try.en38 : Enters Try.prog 38 := ⟨⟨_, Try.func38, by kernel_rfl, by kernel_rfl⟩⟩
instance Try.en39 : Enters Try.prog 39 := ⟨⟨_, Try.func39, by kernel_rfl, by kernel_rfl⟩⟩
instance Try.en40 : Enters Try.prog 40 := ⟨⟨_, Try.func40, by kernel_rfl, by kernel_rfl⟩⟩
instance Try.en41 : Enters Try.prog 41 := ⟨⟨_, Try.func41, by kernel_rfl, by kernel_rfl⟩⟩
instance Try.en42 : Enters Try.prog 42 := ⟨⟨_, Try.func42, by kernel_rfl, by kernel_rfl⟩⟩
instance Try.en43 : Enters Try.prog 43 := ⟨⟨_, Try.func43, by kernel_rfl, by kernel_rfl⟩⟩
instance Try.en44 : Enters Try.prog 44 := ⟨⟨_, Try.func44, by kernel_rfl, by kernel_rfl⟩⟩
instance Try.en45 : Enters Try.prog 45 := ⟨⟨_, Try.func45, by kernel_rfl, by kernel_rfl⟩⟩
instance Try.en46 : Enters Try.prog 46 := ⟨⟨_, Try.func46, by kernel_rfl, by kernel_rfl⟩⟩
instance Try.en47 : Enters Try.prog 47 := ⟨⟨_, Try.func47, by kernel_rfl, by kernel_rfl⟩⟩
instance Try.en48 : Enters Try.prog 48 := ⟨⟨_, Try.func48, by kernel_rfl, by kernel_rfl⟩⟩
instance Try.en49 : Enters Try.prog 49 := ⟨⟨_, Try.func49, by kernel_rfl, by kernel_rfl⟩⟩
instance Try.en50 : Enters Try.prog 50 := ⟨⟨_, Try.func50, by kernel_rfl, by kernel_rfl⟩⟩
instance Try.en51 : Enters Try.prog 51 := ⟨⟨_, Try.func51, by kernel_rfl, by kernel_rfl⟩⟩
instance Try.en52 : Enters Try.prog 52 := ⟨⟨_, Try.func52, by kernel_rfl, by kernel_rfl⟩⟩
instance Try.en53 : Enters Try.prog 53 := ⟨⟨_, Try.func53, by kernel_rfl, by kernel_rfl⟩⟩
instance Try.en54 : Enters Try.prog 54 := ⟨⟨_, Try.func54, by kernel_rfl, by kernel_rfl⟩⟩
instance Try.en55 : Enters Try.prog 55 := ⟨⟨_, Try.func55, by kernel_rfl, by kernel_rfl⟩⟩
instance Try.en56 : Enters Try.prog 56 := ⟨⟨_, Try.func56, by kernel_rfl, by kernel_rfl⟩⟩
instance Try.en57 : Enters Try.prog 57 := ⟨⟨_, Try.func57, by kernel_rfl, by kernel_rfl⟩⟩
instance Try.en58 : Enters Try.prog 58 := ⟨⟨_, Try.func58, by kernel_rfl, by kernel_rfl⟩⟩
instance Try.en59 : Enters Try.prog 59 := ⟨⟨_, Try.func59, by kernel_rfl, by kernel_rfl⟩⟩
instance Try.en60 : Enters Try.prog 60 := ⟨⟨_, Try.func60, by kernel_rfl, by kernel_rfl⟩⟩
instance Try.en61 : Enters Try.prog 61 := ⟨⟨_, Try.func61, by kernel_rfl, by kernel_rfl⟩⟩
instance Try.en62 : Enters Try.prog 62 := ⟨⟨_, Try.func62, by kernel_rfl, by kernel_rfl⟩⟩
instance Try.en63 : Enters Try.prog 63 := ⟨⟨_, Try.func63, by kernel_rfl, by kernel_rfl⟩⟩
instance Try.en64 : Enters Try.prog 64 := ⟨⟨_, Try.func64, by kernel_rfl, by kernel_rfl⟩⟩
instance Try.en65 : Enters Try.prog 65 := ⟨⟨_, Try.func65, by kernel_rfl, by kernel_rfl⟩⟩
instance Try.en66 : Enters Try.prog 66 := ⟨⟨_, Try.func66, by kernel_rfl, by kernel_rfl⟩⟩
instance Try.en67 : Enters Try.prog 67 := ⟨⟨_, Try.func67, by kernel_rfl, by kernel_rfl⟩⟩
instance Try.en68 : Enters Try.prog 68 := ⟨⟨_, Try.func68, by kernel_rfl, by kernel_rfl⟩⟩
instance Try.en69 : Enters Try.prog 69 := ⟨⟨_, Try.func69, by kernel_rfl, by kernel_rfl⟩⟩
instance Try.en70 : Enters Try.prog 70 := ⟨⟨_, Try.func70, by kernel_rfl, by kernel_rfl⟩⟩
instance Try.en71 : Enters Try.prog 71 := ⟨⟨_, Try.func71, by kernel_rfl, by kernel_rfl⟩⟩
instance Try.en72 : Enters Try.prog 72 := ⟨⟨_, Try.func72, by kernel_rfl, by kernel_rfl⟩⟩
instance Try.en73 : Enters Try.prog 73 := ⟨⟨_, Try.func73, by kernel_rfl, by kernel_rfl⟩⟩
instance Try.en74 : Enters Try.prog 74 := ⟨⟨_, Try.func74, by kernel_rfl, by kernel_rfl⟩⟩
instance Try.en75 : Enters Try.prog 75 := ⟨⟨_, Try.func75, by kernel_rfl, by kernel_rfl⟩⟩
instance Try.en76 : Enters Try.prog 76 := ⟨⟨_, Try.func76, by kernel_rfl, by kernel_rfl⟩⟩
instance Try.en77 : Enters Try.prog 77 := ⟨⟨_, Try.func77, by kernel_rfl, by kernel_rfl⟩⟩
instance Try.en78 : Enters Try.prog 78 := ⟨⟨_, Try.func78, by kernel_rfl, by kernel_rfl⟩⟩
instance Try.en79 : Enters Try.prog 79 := ⟨⟨_, Try.func79, by kernel_rfl, by kernel_rfl⟩⟩
instance Try.en80 : Enters Try.prog 80 := ⟨⟨_, Try.func80, by kernel_rfl, by kernel_rfl⟩⟩
instance Try.en81 : Enters Try.prog 81 := ⟨⟨_, Try.func81, by kernel_rfl, by kernel_rfl⟩⟩
instance Try.en82 : Enters Try.prog 82 := ⟨⟨_, Try.func82, by kernel_rfl, by kernel_rfl⟩⟩
instance Try.en83 : Enters Try.prog 83 := ⟨⟨_, Try.func83, by kernel_rfl, by kernel_rfl⟩⟩
instance Try.en84 : Enters Try.prog 84 := ⟨⟨_, Try.func84, by kernel_rfl, by kernel_rfl⟩⟩
instance Try.en85 : Enters Try.prog 85 := ⟨⟨_, Try.func85, by kernel_rfl, by kernel_rfl⟩⟩
instance Try.en86 : Enters Try.prog 86 := ⟨⟨_, Try.func86, by kernel_rfl, by kernel_rfl⟩⟩
instance Try.en87 : Enters Try.prog 87 := ⟨⟨_, Try.func87, by kernel_rfl, by kernel_rfl⟩⟩
instance Try.en88 : Enters Try.prog 88 := ⟨⟨_, Try.func88, by kernel_rfl, by kernel_rfl⟩⟩
instance Try.en89 : Enters Try.prog 89 := ⟨⟨_, Try.func89, by kernel_rfl, by kernel_rfl⟩⟩
instance Try.en90 : Enters Try.prog 90 := ⟨⟨_, Try.func90, by kernel_rfl, by kernel_rfl⟩⟩
instance Try.en91 : Enters Try.prog 91 := ⟨⟨_, Try.func91, by kernel_rfl, by kernel_rfl⟩⟩
instance Try.en92 : Enters Try.prog 92 := ⟨⟨_, Try.func92, by kernel_rfl, by kernel_rfl⟩⟩
instance Try.en93 : Enters Try.prog 93 := ⟨⟨_, Try.func93, by kernel_rfl, by kernel_rfl⟩⟩
instance Try.en94 : Enters Try.prog 94 := ⟨⟨_, Try.func94, by kernel_rfl, by kernel_rfl⟩⟩
instance Try.en95 : Enters Try.prog 95 := ⟨⟨_, Try.func95, by kernel_rfl, by kernel_rfl⟩⟩
instance Try.en96 : Enters Try.prog 96 := ⟨⟨_, Try.func96, by kernel_rfl, by kernel_rfl⟩⟩
instance Try.en97 : Enters Try.prog 97 := ⟨⟨_, Try.func97, by kernel_rfl, by kernel_rfl⟩⟩
instance Try.en98 : Enters Try.prog 98 := ⟨⟨_, Try.func98, by kernel_rfl, by kernel_rfl⟩⟩
instance Try.en99 : Enters Try.prog 99 := ⟨⟨_, Try.func99, by kernel_rfl, by kernel_rfl⟩⟩
instance Try.en100 : Enters Try.prog 100 := ⟨⟨_, Try.func100, by kernel_rfl, by kernel_rfl⟩⟩
instance Try.en101 : Enters Try.prog 101 := ⟨⟨_, Try.func101, by kernel_rfl, by kernel_rfl⟩⟩
end Go.Proofs

/-
  Bytes and strings, slices that are cut on both sides, append in place, clear, fields of values.
-/
set_option linter.unusedVariables false
set_option linter.unusedSimpArgs false
namespace Go.Sl
open Go

section
variable {g : World} {P : Program} {ops : Array Oper} {Q : Exit → Act → World → Prop} {n : Nat} {rest : List Oper} {L : Fm} {H : HH} {q : Bool}
variable {d : Nat} {ty : TypeId} {pos : String} {af : Array Edge} {v v2 : Value}

/-- The bytes as a string. -/
def strOf (xs : List UInt8) : ByteArray := ⟨xs.toArray⟩
theorem strOf_data (s : ByteArray) : strOf s.data.toList = s := by cases s; rfl
theorem data_strOf (xs : List UInt8) : (strOf xs).data.toList = xs := rfl
theorem strOf_inj {xs ys : List UInt8} : strOf xs = strOf ys ↔ xs = ys := by
  constructor
  · intro h
    have := congrArg (fun s : ByteArray => s.data.toList) h
    simpa [strOf] using this
  · rintro rfl; rfl
theorem strOf_size (xs : List UInt8) : (strOf xs).size = xs.length := by simp [strOf, ByteArray.size]

theorem WX.strOf {x : Operand} {t t' e : Nat} {xs : List UInt8} {h : Hp} {K : Hp → HH} (hx : ev L x = some v) (hs : Rs xs v h) [hw : Swp h H K] [h1 : TU P t (.slice e)] [h2 : TU P e (.int .u8)] [h3 : TU P t' .string] (hd : Nat.blt d n = true)
    (kk : WX q g P ops Q n rest ((d, .string (Sl.strOf xs)) :: L) H) : WX q g P ops Q n (⟨some d, .convert t t' x, ty, pos, af, none⟩ :: rest) L H :=
  WX.val (fun a ha w ho => by
    obtain ⟨p, c, rfl, le, f⟩ := hs
    have key : (convert t t' (.slice p xs.length c)).run P w = .ok (.string ⟨xs.toArray⟩) w := by
      cases p with
      | none =>
        have hx : xs = [] := by
          cases xs with
          | nil => rfl
          | cons y r => obtain ⟨b, off, e, _⟩ := f 0 y rfl; cases e
        subst hx
        rw [run_convert_bytes_string w t t' e none _ c h1.h h2.h h3.h]
        simp [Conv.bytesToString]
        rfl
      | some a =>
        refine run_convert_bytes_back w t t' e a c xs h1.h h2.h h3.h (fun j hj => ?_)
        obtain ⟨b, off, e1, e2⟩ := f j _ (List.getElem?_eq_getElem hj)
        cases e1
        rw [add_none]
        have := e2 0 _ rfl g w (hw.onx ho)
        simpa [Enc.sz] using this
    simp only [execOp, ha.ev hx, Sem.run_bind, key, Result.andThen_ok, Sem.run_pure]
    rfl) hd kk

theorem WX.bytesOf {x : Operand} {t t' e : Nat} {s : ByteArray} (hx : ev L x = some (.string s)) [h1 : TU P t .string] [h2 : TU P t' (.slice e)] [h3 : TU P e (.int .u8)] (hd : Nat.blt d n = true)
    (kk : ∀ v' h', IsSl e s.data.toList v' h' → WX false g P ops Q n rest ((d, v') :: L) (h' :: H)) : WX false g P ops Q n (⟨some d, .convert t t' x, ty, pos, af, none⟩ :: rest) L H := by
  refine WX.eff hd fun a w ha ho => ?_
  have hr := run_bytes_of_string (P := P) w t t' e s h1.h h2.h h3.h
  obtain ⟨r, hcap⟩ : ∃ r, grownCap w s.size 0 e = s.size + r := ⟨_, rfl⟩
  have hrow : bytesRow s (grownCap w s.size 0 e) = List.toArray (encs s.data.toList ++ List.replicate r (Value.int .u8 0)) := by
    rw [hcap]
    apply Array.toList_inj.1
    simp only [bytesRow, Nat.add_sub_cancel_left]
    have he : ∀ l : List UInt8, encs l = l.map (fun b => Value.int .u8 (b.toNat : Int)) := by
      intro l
      induction l with
      | nil => rfl
      | cons x r ih =>
        have : encs (x :: r) = Enc.enc x ++ encs r := rfl
        rw [this, ih]; rfl
    rw [he]
    simp
  refine ⟨.slice (some ⟨w.heap.size, 0, none⟩) s.size (grownCap w s.size 0 e), World.alloc w.drew (.cells (bytesRow s (grownCap w s.size 0 e)) e ((bytesRow s (grownCap w s.size 0 e)).size, (bytesRow s (grownCap w s.size 0 e)).size + 1)), [(w.heap.size, .cells (bytesRow s (grownCap w s.size 0 e)) e ((bytesRow s (grownCap w s.size 0 e)).size, (bytesRow s (grownCap w s.size 0 e)).size + 1))] :: H, ?_, ?_, kk _ _ ?_⟩
  · simp only [execOp, ha.ev hx, Sem.run_bind, hr, Result.andThen_ok, Sem.run_pure]
  · have h1 : on g H.flatten w.drew := ho.heap rfl ⟨rfl, rfl, rfl, Nat.le_refl _⟩
    exact h1.alloc _
  · have hsz : s.data.toList.length = s.size := Array.length_toList
    have hrl : (bytesRow s (grownCap w s.size 0 e)).size = s.size + r := by
      rw [hrow, List.size_toArray, List.length_append, encs_len, List.length_replicate, hsz]
      show s.size * 1 + r = _
      rw [Nat.mul_one]
    refine .inr ⟨w.heap.size, s.size + r, List.replicate r (Value.int .u8 0), ((bytesRow s (grownCap w s.size 0 e)).size, (bytesRow s (grownCap w s.size 0 e)).size + 1), ?_, ?_, ?_, ?_, ?_⟩
    · rw [hcap, hsz]
    · rw [hrow]
    · rw [hsz]; omega
    · rw [hsz, List.length_replicate, Nat.add_sub_cancel_left]
      show r = r * 1
      rw [Nat.mul_one]
    · right
      rw [hrl]
      show (s.size + r) * 1 ≤ s.size + r
      rw [Nat.mul_one]
      exact Nat.le_refl _

section strs
variable {x y : Operand} {t t' : Nat} {a b : ByteArray}
theorem run_eqGuard_str {op : BinOp} {w : World} : (eqGuard op t x y (.string a) (.string b)).run P w = .ok () w := by
  unfold eqGuard; cases op <;> rfl
theorem WX.eqlS (hx : ev L x = some (.string a)) (hy : ev L y = some (.string b)) (hd : Nat.blt d n = true) [ht : TU P t .string]
    (k : WX q g P ops Q n rest ((d, .bool (decide (a = b))) :: L) H) : WX q g P ops Q n (⟨some d, .binOp .eql t x y t', ty, pos, af, none⟩ :: rest) L H :=
  WX.val (fun ac ha w _ => run_bin (ha.ev hx) (ha.ev hy) run_eqGuard_str (by
    rw [binOp_string_eql, Sem.run_pure, ← beq_toListBytes, beq_bytes])) hd k
theorem WX.neqS (hx : ev L x = some (.string a)) (hy : ev L y = some (.string b)) (hd : Nat.blt d n = true) [ht : TU P t .string]
    (k : WX q g P ops Q n rest ((d, .bool (decide (¬ a = b))) :: L) H) : WX q g P ops Q n (⟨some d, .binOp .neq t x y t', ty, pos, af, none⟩ :: rest) L H :=
  WX.val (fun ac ha w _ => run_bin (ha.ev hx) (ha.ev hy) run_eqGuard_str (by
    rw [binOp_string_neq, Sem.run_pure, ← beq_toListBytes, beq_bytes]
    simp)) hd k
end strs

-- slices against nil
section nilsl
variable {x y : Operand} {t t' e : Nat} {p : Option Addr} {l c : Nat}
theorem run_eqGuard_sl {op : BinOp} {w : World} {u : Value} : (eqGuard op t x y (.slice p l c) (.slice none 0 0)).run P w = .ok () w := by
  unfold eqGuard; cases op <;> rfl
theorem run_equalIn_sl {w : World} (k : Nat) [ht : TU P t (.slice e)] : (Op.equalIn (k + 1) t (.slice p l c) (.slice none 0 0)).run P w = .ok p.isNone w := by
  cases p <;> simp [Op.equalIn, ht.run]
theorem WX.eqlN (hx : ev L x = some (.slice p l c)) (hy : ev L y = some (.slice none 0 0)) (hd : Nat.blt d n = true) [ht : TU P t (.slice e)]
    (k : WX q g P ops Q n rest ((d, .bool p.isNone) :: L) H) : WX q g P ops Q n (⟨some d, .binOp .eql t x y t', ty, pos, af, none⟩ :: rest) L H :=
  WX.val (fun ac ha w _ => run_bin (ha.ev hx) (ha.ev hy) (run_eqGuard_sl (u := undef)) (by
    show ((do pure (.bool (← Op.equalIn 10000 t (.slice p l c) (.slice none 0 0))) : Sem Value)).run P w = _
    rw [Sem.run_bind, run_equalIn_sl (t := t) (e := e) 9999]; rfl)) hd k
theorem WX.neqN (hx : ev L x = some (.slice p l c)) (hy : ev L y = some (.slice none 0 0)) (hd : Nat.blt d n = true) [ht : TU P t (.slice e)]
    (k : WX q g P ops Q n rest ((d, .bool (!p.isNone)) :: L) H) : WX q g P ops Q n (⟨some d, .binOp .neq t x y t', ty, pos, af, none⟩ :: rest) L H :=
  WX.val (fun ac ha w _ => run_bin (ha.ev hx) (ha.ev hy) (run_eqGuard_sl (u := undef)) (by
    show ((do pure (.bool (!(← Op.equalIn 10000 t (.slice p l c) (.slice none 0 0)))) : Sem Value)).run P w = _
    rw [Sem.run_bind, run_equalIn_sl (t := t) (e := e) 9999]; rfl)) hd k
end nilsl

-- slices that are cut
/-- v[lo:hi:mx], of elements of m cells. -/
def slCut (v : Value) (m lo hi mx : Nat) : Value := match v with
  | .slice a _ _ => .slice (if mx = lo then a else a.map (·.add (lo * m))) (hi - lo) (mx - lo)
  | _ => v
def slCap : Value → Nat
  | .slice _ _ c => c
  | _ => 0
def slBase : Value → Option Addr
  | .slice a _ _ => a
  | _ => none
theorem slCut_eq (a : Option Addr) (l c m lo hi mx : Nat) : slCut (.slice a l c) m lo hi mx = .slice (if mx = lo then a else a.map (·.add (lo * m))) (hi - lo) (mx - lo) := rfl

section cut
variable {x i j k3 : Operand} {t e m lo hi mx : Nat} {ag : Bool} {kd kd' kd3 : IntKind} {p : Option Addr} {l c : Nat}
theorem bound_ok {w : World} {kd : IntKind} {k y : Nat} {code : BoundsCode} (h : k ≤ y) : (Instr.sliceBound (.int kd (k : Int)) y code).run P w = .ok k w := by
  have : (0 : Int) ≤ (k : Int) ∧ (k : Int) ≤ (y : Int) := ⟨by omega, by omega⟩
  simp [Instr.sliceBound, asIntOf, h]
theorem WX.cut2 (hx : ev L x = some (.slice p l c)) (hi' : ev L i = some (.int kd (lo : Int))) (hj' : ev L j = some (.int kd' (hi : Int))) (h1 : lo ≤ hi) (h2 : hi ≤ c) [ht : TU P t (.slice e)] [hl : TL P e m ag]
    (hd : Nat.blt d n = true) (kk : WX q g P ops Q n rest ((d, slCut (.slice p l c) m lo hi c) :: L) H) : WX q g P ops Q n (⟨some d, .slice t x (some i) (some j) none, ty, pos, af, none⟩ :: rest) L H :=
  WX.val (fun a' ha w hw => by
    simp [execOp, ha.ev hx, ha.ev hi', ha.ev hj', Instr.sliceAt, Instr.slice, Instr.sliceBounds, bound_ok h1, bound_ok h2, ht.run, hl.sizeOf, slCut]) hd kk
theorem WX.cut3 (hx : ev L x = some (.slice p l c)) (hi' : ev L i = some (.int kd (lo : Int))) (hj' : ev L j = some (.int kd' (hi : Int))) (hk' : ev L k3 = some (.int kd3 (mx : Int))) (h1 : lo ≤ hi) (h2 : hi ≤ mx) (h3 : mx ≤ c) [ht : TU P t (.slice e)] [hl : TL P e m ag]
    (hd : Nat.blt d n = true) (kk : WX q g P ops Q n rest ((d, slCut (.slice p l c) m lo hi mx) :: L) H) : WX q g P ops Q n (⟨some d, .slice t x (some i) (some j) (some k3), ty, pos, af, none⟩ :: rest) L H :=
  WX.val (fun a' ha w hw => by
    simp [execOp, ha.ev hx, ha.ev hi', ha.ev hj', ha.ev hk', Instr.sliceAt, Instr.slice, Instr.sliceBounds, bound_ok h1, bound_ok h2, bound_ok h3, ht.run, hl.sizeOf, slCut]) hd kk
theorem WX.cutFrom (hx : ev L x = some (.slice p l c)) (hi' : ev L i = some (.int kd (lo : Int))) (h1 : lo ≤ l) (h2 : l ≤ c) [ht : TU P t (.slice e)] [hl : TL P e m ag]
    (hd : Nat.blt d n = true) (kk : WX q g P ops Q n rest ((d, slCut (.slice p l c) m lo l c) :: L) H) : WX q g P ops Q n (⟨some d, .slice t x (some i) none none, ty, pos, af, none⟩ :: rest) L H :=
  WX.val (fun a' ha w hw => by
    simp [execOp, ha.ev hx, ha.ev hi', Instr.sliceAt, Instr.slice, Instr.sliceBounds, bound_ok h1, ht.run, hl.sizeOf, slCut]) hd kk
end cut

section cuts
variable {α : Type} [E : Enc α] {xs ys : List α} {y : α} {T k m : Nat} {h : Hp}
/-- A piece of it reads as the piece. -/
theorem Rs.cut (hs : Rs xs v h) (hm : m = Enc.sz α) {lo hi mx : Nat} (h1 : lo ≤ hi) (h2 : hi ≤ xs.length) (h3 : hi ≤ mx) : Rs ((xs.drop lo).take (hi - lo)) (slCut v m lo hi mx) h := by
  subst hm
  obtain ⟨a, c, rfl, le, f⟩ := hs
  have hl : ((xs.drop lo).take (hi - lo)).length = hi - lo := by rw [List.length_take, List.length_drop]; omega
  refine ⟨_, _, by rw [slCut_eq, hl], by omega, fun k y hk => ?_⟩
  have hlt := (List.getElem?_eq_some_iff.1 hk).1
  rw [hl] at hlt
  rw [List.getElem?_take, if_pos hlt, List.getElem?_drop] at hk
  obtain ⟨b, off, e1, e2⟩ := f (lo + k) y hk
  refine ⟨b, off + lo * Enc.sz α, ?_, fun j u hu g w ho => ?_⟩
  · rw [if_neg (by omega), e1]; simp [add_none]
  · rw [← e2 j u hu g w ho]; congr 2; rw [Nat.add_mul]; omega
theorem Rs.from (hs : Rs xs v h) (hm : m = Enc.sz α) {lo : Nat} (h1 : lo ≤ xs.length) : Rs (xs.drop lo) (slCut v m lo xs.length (slCap v)) h := by
  obtain ⟨a, c, e, le, f⟩ := id hs
  have := hs.cut hm h1 (Nat.le_refl _) (mx := slCap v) (by rw [e]; exact le)
  rwa [List.take_of_length_le (by rw [List.length_drop]; omega)] at this

/-- append, where there is room: the same block, the same room. -/
theorem run_appendIn {t t2 bytes : Nat} {ag : Bool} {v2 : Value} {ty : TypeId} {d2 : TypeDesc} [ht : TU P t (.slice T)] [ht2 : TU P t2 d2] (hd2 : ∀ k, d2 ≠ .int k)
    [hl : TL P T m ag] (hm : m = Enc.sz α) {b cap : Nat} {sp : List Value} {fr : Nat × Nat} (h1 : xs.length ≤ cap) (h2 : sp.length = (cap - xs.length) * Enc.sz α) (h3 : Free fr (cap * Enc.sz α)) {w : World}
    (hh : w.heap[b]? = some (.cells (List.toArray (encs xs ++ sp)) T fr)) (s1 : Src P (Enc.sz α) v2 ys.length (encs ys) w) (hfit : xs.length + ys.length ≤ cap) :
    ∃ w' o, (Builtin.append_ #[t, t2] ty #[.slice (some ⟨b, 0, none⟩) xs.length cap, v2]).run P w = .ok (.slice (some ⟨b, 0, none⟩) (xs.length + ys.length) cap) w' ∧ Amb w w' ∧ w'.heap[b]? = some o ∧ (∀ k, k ≠ b → w'.heap[k]? = w.heap[k]?) ∧
      o = .cells (List.toArray (encs (xs ++ ys) ++ sp.drop (ys.length * Enc.sz α))) T fr := by
  subst hm
  have hlen : (encs xs ++ sp).length = cap * Enc.sz α := by rw [List.length_append, encs_len, h2, ← Nat.add_mul]; congr 1; omega
  have hfit2 : xs.length * Enc.sz α + ys.length * Enc.sz α ≤ cap * Enc.sz α := by rw [← Nat.add_mul]; exact Nat.mul_le_mul_right _ hfit
  obtain ⟨w', e1, e2, e3, e4⟩ := run_storeCellsF (P := P) (encs ys) (xs.length * Enc.sz α) 0 _ w hh (by rw [hlen]; exact h3) (by rw [hlen, encs_len]; simpa using hfit2) (encs_one ys)
  have hints : (match (generalizing := false) d2 with | .int _ => true | _ => false) = false := by cases d2 <;> first | rfl | exact absurd rfl (hd2 _)
  refine ⟨w', _, ?_, e2, e3, e4, ?_⟩
  · simp [Builtin.append_, ht.run, ht2.run, hl.sizeOf, hints, s1.len, s1.cells, hfit, add_none, e1]
  · congr 2
    rw [Nat.add_zero, ← encs_len xs, show (encs xs).length = (encs xs).length + 0 from rfl, setAt_append_right, encs_append, List.append_assoc]
    congr 1
    have hsp : sp = sp.take (ys.length * Enc.sz α) ++ sp.drop (ys.length * Enc.sz α) := (List.take_append_drop _ _).symm
    have hspl : ys.length * Enc.sz α ≤ sp.length := by rw [h2]; exact Nat.mul_le_mul_right _ (by omega)
    conv => lhs; rw [hsp]
    rw [setAt_append_left _ _ _ _ (by rw [encs_len, List.length_take, Nat.min_eq_left hspl]; omega)]
    congr 1
    have := setAt_all (encs ys) (sp.take (ys.length * Enc.sz α)) 0 [] rfl (by rw [List.length_take, Nat.min_eq_left hspl, encs_len])
    simpa using this
theorem WX.appIn {x z : Operand} {t t2 b cap nx : Nat} {ag : Bool} {e2 : Nat} {cs sp : List Value} {fr : Nat × Nat} {K : Obj → HH} (hx : ev L x = some (.slice (some ⟨b, 0, none⟩) nx cap)) (hz : ev L z = some v2)
    [hf : Foc b (.cells (List.toArray cs) T fr) H K] (hs2 : Rs ys v2 [(b, .cells (List.toArray cs) T fr)]) [ht : TU P t (.slice T)] [ht2 : TU P t2 (.slice e2)] [hl : TL P T m ag] (hm : m = Enc.sz α) (hn : nx = xs.length) (hcs : cs = encs xs ++ sp)
    (h1 : xs.length ≤ cap) (h2 : sp.length = (cap - xs.length) * Enc.sz α) (h3 : Free fr (cap * Enc.sz α)) (hfit : xs.length + ys.length ≤ cap) (hd : Nat.blt d n = true)
    (kk : WX false g P ops Q n rest ((d, .slice (some ⟨b, 0, none⟩) (xs.length + ys.length) cap) :: L) (K (.cells (List.toArray (encs (xs ++ ys) ++ sp.drop (ys.length * Enc.sz α))) T fr))) :
    WX false g P ops Q n (⟨some d, .call ⟨.builtin .append, #[x, z], #[t, t2]⟩, ty, pos, af, none⟩ :: rest) L H := by
  subst hn; subst hcs
  refine WX.eff hd fun a w ha ho => ?_
  have hh := hf.heap ho
  have s1 : Src P (Enc.sz α) v2 ys.length (encs ys) w := hs2.src (g := w) ⟨Amb.refl w, by simp, fun b' o hm => by
    rw [List.mem_singleton] at hm; cases hm; exact hh⟩
  obtain ⟨w', o, hr, ham, e1, e2, rfl⟩ := run_appendIn (ty := ty) (t := t) (t2 := t2) (bytes := 0) (by intro k hk; cases hk) hm h1 h2 h3 hh s1 hfit
  exact ⟨_, w', _, run_bi (args := [x, z]) (vs := [.slice (some ⟨b, 0, none⟩) xs.length cap, v2]) (by simp [ha.ev hx, ha.ev hz]) (by simp [builtin, hr]), hf.set ho ham e1 e2, kk⟩

theorem rep_one {zs : List Value} (h1 : oneCells zs = true) : ∀ k, oneCells (List.replicate k zs).flatten = true
  | 0 => rfl
  | k + 1 => by
    simp only [List.replicate_succ, List.flatten_cons, oneCells, List.all_append, Bool.and_eq_true]
    exact ⟨h1, rep_one h1 k⟩
/-- clear, of elements of a block. -/
theorem WX.clearB {x : Operand} {t b off len c : Nat} {zs : List Value} {cs : List Value} {fr : Nat × Nat} {K : Obj → HH} (hx : ev L x = some (.slice (some ⟨b, off, none⟩) len c)) [ht : TU P t (.slice T)] [hz : TZ P T zs]
    [hf : Foc b (.cells (List.toArray cs) T fr) H K] (h3 : Free fr cs.length) (hp : 0 < len) (hb : off + len * zs.length ≤ cs.length) (h1 : oneCells zs = true)
    (kk : WX false g P ops Q n rest L (K (.cells (List.toArray (setAt cs off (List.replicate len zs).flatten)) T fr))) :
    WX false g P ops Q n (⟨none, .call ⟨.builtin .clear, #[x], #[t]⟩, ty, pos, af, none⟩ :: rest) L H :=
  WX.effN (fun a w ha ho => by
    obtain ⟨z, hz1, hz2⟩ := hz.run (w := w)
    have hone := rep_one h1 len
    have hlen : (List.replicate len zs).flatten.length = len * zs.length := by simp
    obtain ⟨w', e1, e2, e3, e4⟩ := run_storeCellsF (P := P) (List.replicate len zs).flatten off 0 cs w (hf.heap ho) h3 (by rw [hlen]; omega) hone
    refine ⟨.tuple #[], w', _, run_bi (args := [x]) (vs := [.slice (some ⟨b, off, none⟩) len c]) (by simp [ha.ev hx]) ?_, hf.set ho e2 (by simpa using e3) e4, kk⟩
    obtain ⟨l', rfl⟩ : ∃ l', len = l' + 1 := ⟨len - 1, by omega⟩
    have hzc : (Builtin.zeroCells z.cells (l' + 1)).toList = (List.replicate (l' + 1) zs).flatten := by
      by_cases h0 : zs.length = 0
      · have : zs = [] := List.length_eq_zero_iff.1 h0
        subst this
        simp [Builtin.zeroCells, hz2]
      · have := range_zeros zs zs.length rfl (by omega) (l' + 1)
        rw [← this]
        simp [Builtin.zeroCells, hz2]
    simp [builtin, Builtin.clear_, ht.run, hz1, hzc, e1])
end cuts
end
end Go.Sl

/-
  Contracts packed; several results; slices turned stringish; sums, products and bits of bytes.
-/
set_option linter.unusedVariables false
set_option linter.unusedSimpArgs false
namespace Go.Sl
open Go

section
variable {g : World} {P : Program} {ops : Array Oper} {Q : Exit → Act → World → Prop} {n : Nat} {rest : List Oper} {L : Fm} {H : HH} {q : Bool}
variable {d : Nat} {ty : TypeId} {pos : String} {af : Array Edge} {v v2 : Value}

theorem whole {cs : List Value} {m : Nat} (h : cs.length = m) : (cs.drop 0).take m = cs := by subst h; simp
theorem WX.nilH {os : List Oper} (h : WX q g P ops Q n os L ([] :: H)) : WX q g P ops Q n os L H := WX.flat (H' := [] :: H) rfl h
/-- A contract over the same memory, cut otherwise. -/
theorem Ct.pack {f : FuncId} {args : List Value} {pre pre' : HH} {post post' : Value → HH → Prop} (h : Ct P f args pre post) (e : pre'.flatten = pre.flatten) (k : ∀ v H', post v H' → ∃ H'', H''.flatten = H'.flatten ∧ post' v H'') : Ct P f args pre' post' :=
  ⟨fun g R w hw => (h.calls g R w (by simpa [e] using hw)).mono fun _ _ ⟨v, H', he, p, o⟩ => by
    obtain ⟨H'', e2, p2⟩ := k v H' p
    exact ⟨v, H'', he, p2, by simpa [e2] using o⟩⟩

/-- The same, with something let go. -/
theorem Ct.packP {f : FuncId} {args : List Value} {pre pre' : HH} {post post' : Value → HH → Prop} (h : Ct P f args pre post) (e : pre'.flatten = pre.flatten) (k : ∀ v H', post v H' → ∃ H'' X, (H''.flatten ++ X).Perm H'.flatten ∧ post' v H'') : Ct P f args pre' post' :=
  ⟨fun g R w hw => (h.calls g R w (by simpa [e] using hw)).mono fun en w' ⟨v, H', he, p, o⟩ => by
    obtain ⟨H'', X, e2, p2⟩ := k v H' p
    refine ⟨v, H'', he, p2, ?_⟩
    have o1 : on g (H'.flatten ++ R) w' := by simpa using o
    have o2 : on g (H''.flatten ++ X ++ R) w' := o1.perm (e2.symm.append_right R)
    have o3 : on g (H''.flatten ++ R ++ X) w' := o2.perm (by
      rw [List.append_assoc, List.append_assoc]
      exact List.Perm.append_left _ List.perm_append_comm)
    simpa using o3.left⟩
theorem Ct.frame {f : FuncId} {args : List Value} {pre F : HH} {post post' : Value → HH → Prop} (h : Ct P f args pre post) (k : ∀ v H', post v H' → post' v (H' ++ F)) : Ct P f args (pre ++ F) post' :=
  ⟨fun g R w hw => (h.calls g (F.flatten ++ R) w (by simpa using hw)).mono fun _ _ ⟨v, H', he, p, o⟩ => ⟨v, H' ++ F, he, k v H' p, by simpa using o⟩⟩
theorem Ct.ext {f : FuncId} {args : List Value} {x r : Hp} {u : Value} (h : Ct P f args [x] (fun v H' => v = u ∧ H' = [x])) : Ct P f args [x ++ r] (fun v H' => v = u ∧ H' = [x ++ r]) :=
  (Ct.frame (F := [r]) (post' := fun v H' => v = u ∧ H' = [x, r]) h (fun v H' p => ⟨p.1, by rw [p.2]; rfl⟩)).pack (by simp) (fun v H' p => ⟨[x ++ r], by rw [p.2]; simp, p.1, rfl⟩)
theorem Ct.extW {f : FuncId} {args : List Value} {x y r : Hp} {u : Value} {Q : Hp → Prop} (h : Ct P f args [x] (fun v H' => v = u ∧ H' = [y])) (k : Q (y ++ r)) : Ct P f args [x ++ r] (fun v H' => ∃ h', v = u ∧ H' = [h'] ∧ Q h') :=
  (Ct.frame (F := [r]) (post' := fun v H' => v = u ∧ H' = [y, r]) h (fun v H' p => ⟨p.1, by rw [p.2]; rfl⟩)).pack (by simp) (fun v H' p => ⟨[y ++ r], by rw [p.2]; simp, _, p.1, rfl, k⟩)
theorem IsSl.sh {α : Type} [Enc α] {T : Nat} {xs : List α} {v : Value} {h : Hp} (hs : IsSl T xs v h) : ∃ p n c, v = .slice p n c := let ⟨p, c, e⟩ := hs.len; ⟨p, _, c, e⟩
theorem IsSl.congr {α : Type} [Enc α] {T : Nat} {xs ys : List α} {v : Value} {h : Hp} (hs : IsSl T xs v h) (e1 : encs xs = encs ys) (e2 : xs.length = ys.length) : IsSl T ys v h := by
  rcases hs with ⟨rfl, rfl, rfl⟩ | ⟨b, cap, sp, fr, rfl, rfl, h1, h2, h3⟩
  · exact .inl ⟨rfl, List.length_eq_zero_iff.1 e2.symm, rfl⟩
  · exact .inr ⟨b, cap, sp, fr, by rw [e2], by rw [e1], by rw [← e2]; exact h1, by rw [← e2]; exact h2, h3⟩

-- results
/-- What stands in the result places. -/
inductive Res (P : Program) (L : Fm) (H : HH) : List ResultVar → List Value → Prop
  | nil : Res P L H [] []
  | tmp {t : Nat} {v : Value} {rs : List ResultVar} {vs : List Value} (h : lk L t = some v) (r : Res P L H rs vs) : Res P L H (.tmp t :: rs) (v :: vs)
  | cellA {c b T T' m : Nat} {fr : Nat × Nat} {us : List Value} {K : Obj → HH} {rs : List ResultVar} {vs : List Value} (hl : lk L c = some (.pointer (some ⟨b, 0, none⟩))) [ht : TL P T m true] [hf : Foc b (.cells (List.toArray us) T' fr) H K]
      (hm : us.length = m) (r : Res P L H rs vs) : Res P L H (.cell c T :: rs) (.agg us.toArray :: vs)
  | cell1 {c b T T' : Nat} {fr : Nat × Nat} {u : Value} {K : Obj → HH} {rs : List ResultVar} {vs : List Value} (hl : lk L c = some (.pointer (some ⟨b, 0, none⟩))) [ht : TL P T 1 false] [hf : Foc b (.cells (List.toArray [u]) T' fr) H K]
      (r : Res P L H rs vs) : Res P L H (.cell c T :: rs) (u :: vs)
def resOf (tmps : Array Value) : ResultVar → Sem Value
  | .tmp t => pure (tmps.getD t undef)
  | .cell a t => do loadVar t (← asAddr (tmps.getD a undef))
theorem Res.run {rs : List ResultVar} {vs : List Value} {a : Act} {w : World} (h : Res P L H rs vs) (ha : Fr n L a) (hw : on g H.flatten w) : (rs.mapM (resOf a.tmps)).run P w = .ok vs w := by
  induction h with
  | nil => simp
  | tmp h r ih =>
    rename_i t v rs vs
    have hc : (resOf a.tmps (.tmp t)).run P w = .ok v w := by simp only [resOf, Sem.run_pure, ha.getD h]
    simp only [List.mapM_cons, Sem.run_bind, Sem.run_pure, Result.andThen_ok, ih, hc]
  | cellA hl hm r ih =>
    rename_i c b T T' m fr us K rs vs ht hf
    have h1 : (loadVar T ⟨b, 0, none⟩).run P w = .ok (.agg us.toArray) w := by
      subst hm
      have := run_loadCells_list (P := P) w ⟨b, 0, none⟩ us (fun j v e => by rw [add_none]; rw [Nat.zero_add, cell_bk (hf.heap hw)]; exact e)
      simp [loadVar, ht.isAgg, ht.sizeOf, this]
    have hc : (resOf a.tmps (.cell c T)).run P w = .ok (.agg us.toArray) w := by simp only [resOf, ha.getD hl, asAddr, Sem.run_bind, Sem.run_pure, Result.andThen_ok, h1]
    simp only [List.mapM_cons, Sem.run_bind, Sem.run_pure, Result.andThen_ok, ih, hc]
  | cell1 hl r ih =>
    rename_i c b T T' fr u K rs vs ht hf
    have h1 : (loadVar T ⟨b, 0, none⟩).run P w = .ok u w := by
      have : w.cell? ⟨b, 0, none⟩ = some u := by rw [cell_bk (hf.heap hw)]; rfl
      simp [loadVar, ht.isAgg, this]
    have hc : (resOf a.tmps (.cell c T)).run P w = .ok u w := by simp only [resOf, ha.getD hl, asAddr, Sem.run_bind, Sem.run_pure, Result.andThen_ok, h1]
    simp only [List.mapM_cons, Sem.run_bind, Sem.run_pure, Result.andThen_ok, ih, hc]
theorem Res.results {fn : Func} {rs : List ResultVar} {vs : List Value} {a : Act} {w : World} (hr : fn.results = rs.toArray) (h : Res P L H rs vs) (ha : Fr n L a) (hw : on g H.flatten w) :
    (Go.results fn a.tmps).run P w = .ok (if h : vs.toArray.size = 1 then vs.toArray[0] else .tuple vs.toArray) w := by
  have := h.run ha hw
  have e : (rs.toArray.mapM (resOf a.tmps)).run P w = .ok vs.toArray w := by
    rw [List.mapM_toArray]
    simp [this]
  unfold Go.results
  rw [hr]
  show ((do let vs ← rs.toArray.mapM (resOf a.tmps); pure (if h : vs.size = 1 then vs[0] else .tuple vs)) : Sem Value).run P w = _
  rw [Sem.run_bind, e]
  simp
theorem D.finR {fn : Func} {post : Value → HH → Prop} {R : Hp} {rs : List ResultVar} {vs : List Value} (H' r : HH) (hr : fn.results = rs.toArray) (h : Res P L H rs vs) (h1 : Nat.beq vs.length 1 = false) (hp : post (.tuple vs.toArray) H') [k : Picks (H' ++ [R]) H r] :
    D g (bodyPost P fn (cpost g post R)) .ret n L H :=
  .mk fun a w ha hw => ⟨ha.defers, .tuple vs.toArray, by
    rw [Res.results hr h ha hw, dif_neg]
    simpa using Nat.ne_of_beq_eq_false h1, ⟨_, H', rfl, hp, (Hsub.of_picks k).on hw⟩⟩
/-- One result, out of a cell. -/
theorem D.finR1 {fn : Func} {post : Value → HH → Prop} {R : Hp} {rs : List ResultVar} {v : Value} (H' r : HH) (hr : fn.results = rs.toArray) (h : Res P L H rs [v]) (hp : post v H') [k : Picks (H' ++ [R]) H r] :
    D g (bodyPost P fn (cpost g post R)) .ret n L H :=
  .mk fun a w ha hw => ⟨ha.defers, v, by
    rw [Res.results hr h ha hw]; rfl, ⟨_, H', rfl, hp, (Hsub.of_picks k).on hw⟩⟩

-- []byte("..") of a constant: a mark behind the block
theorem WX.convSl {T : Nat} {xs : List UInt8} {h : Hp} {K : Hp → HH} {x : Operand} {t : Nat} (hx : ev L x = some v) (hs : IsSl T xs v h) (hne : 0 < xs.length) [hw : Swp h H K] [h1 : TU P t (.slice T)] [h2 : TU P T (.int .u8)] (hd : Nat.blt d n = true)
    (kk : ∀ h', IsSl T xs v h' → WX false g P ops Q n rest ((d, v) :: L) (K h')) : WX false g P ops Q n (⟨some d, .convert t t x, ty, pos, af, none⟩ :: rest) L H := by
  obtain ⟨b, cap, sp, fr, rfl, rfl, g1, g2, g3⟩ := hs.ne hne
  refine WX.eff hd fun a w ha ho => ?_
  have hh := (hw.onx ho).2.2 b _ (List.mem_cons_self)
  have hsz : (encs xs ++ sp).length = cap := by
    rw [List.length_append, encs_len, g2]
    show xs.length * 1 + (cap - xs.length) * 1 = cap
    omega
  have hshape : w.shape? b = some (T, (encs xs ++ sp).length) := by simp [World.shape?, hh]
  obtain ⟨fr', hfr, hF⟩ : ∃ fr', (w.freeze ⟨b, (encs xs ++ sp).length, none⟩ 1).heap[b]? = some (.cells (List.toArray (encs xs ++ sp)) T fr') ∧ Free fr' (cap * 1) := by
    refine ⟨if fr.1 == fr.2 then ((encs xs ++ sp).length, (encs xs ++ sp).length + 1) else (Nat.min fr.1 (encs xs ++ sp).length, Nat.max fr.2 ((encs xs ++ sp).length + 1)), ?_, ?_⟩
    · simp only [World.freeze]
      rw [if_neg (by decide)]
      simp only [Array.getElem?_modify, if_true, hh, Option.map_some]
    · have g3' : fr.1 = fr.2 ∨ cap * 1 ≤ fr.1 := g3
      split
      · right; simp only [hsz]; omega
      · rename_i hne
        have hne' : fr.1 ≠ fr.2 := by simpa using hne
        right
        rcases g3' with g3' | g3'
        · exact absurd g3' hne'
        · simp only [hsz]; exact Nat.le_min.2 ⟨g3', by omega⟩
  have hmod : ∀ k, k ≠ b → (w.freeze ⟨b, (encs xs ++ sp).length, none⟩ 1).heap[k]? = w.heap[k]? := fun k hk => by
    simp only [World.freeze]
    rw [if_neg (by decide)]
    simp only [Array.getElem?_modify]
    rw [if_neg (fun e => hk e.symm)]
  refine ⟨_, w.freeze ⟨b, (encs xs ++ sp).length, none⟩ 1, _, ?_, hw.set (T := T) ho ⟨?_, ?_, ?_, ?_⟩ hfr hmod, kk _ (.inr ⟨b, cap, sp, fr', rfl, rfl, g1, g2, hF⟩)⟩
  · simp [execOp, ha.ev hx, convert, h1.run, h2.run, markStringish, hshape]
  all_goals (simp only [World.freeze]; rw [if_neg (by decide)]; try simp)

theorem WX.neqBB {x y : Operand} {t t' : Nat} {b : Bool} (hx : ev L x = some (.bool b)) (hy : ev L y = some (.bool b)) (hd : Nat.blt d n = true) [ht : TU P t .bool]
    (k : WX q g P ops Q n rest ((d, .bool false) :: L) H) : WX q g P ops Q n (⟨some d, .binOp .neq t x y t', ty, pos, af, none⟩ :: rest) L H :=
  WX.neqB hx hy hd (by simpa using k)
theorem WX.eqlBB {x y : Operand} {t t' : Nat} {b : Bool} (hx : ev L x = some (.bool b)) (hy : ev L y = some (.bool b)) (hd : Nat.blt d n = true) [ht : TU P t .bool]
    (k : WX q g P ops Q n rest ((d, .bool true) :: L) H) : WX q g P ops Q n (⟨some d, .binOp .eql t x y t', ty, pos, af, none⟩ :: rest) L H :=
  WX.eqlB hx hy hd (by simpa using k)

-- bytes
section bytes
variable {x y : Operand} {t t' a b : Nat}
theorem WX.xor8 (hx : ev L x = some (.int .u8 (a : Int))) (hy : ev L y = some (.int .u8 (b : Int))) (ha : a < 256) (hb : b < 256) (hd : Nat.blt d n = true)
    (k : WX q g P ops Q n rest ((d, .int .u8 ((a ^^^ b : Nat) : Int)) :: L) H) : WX q g P ops Q n (⟨some d, .binOp .xor t x y t', ty, pos, af, none⟩ :: rest) L H :=
  WX.val (fun ac hac w _ => run_bin (hac.ev hx) (hac.ev hy) run_eqGuard_int (by
    have := u8_xor_nat a b ha hb
    simp only [binOp, ne_eq, not_true_eq_false, if_false, intBits_xor, this, Sem.run_pure])) hd k
theorem WX.and8 (hx : ev L x = some (.int .u8 (a : Int))) (hy : ev L y = some (.int .u8 (b : Int))) (ha : a < 256) (hb : b < 256) (hd : Nat.blt d n = true)
    (k : WX q g P ops Q n rest ((d, .int .u8 ((a &&& b : Nat) : Int)) :: L) H) : WX q g P ops Q n (⟨some d, .binOp .and t x y t', ty, pos, af, none⟩ :: rest) L H :=
  WX.val (fun ac hac w _ => run_bin (hac.ev hx) (hac.ev hy) run_eqGuard_int (by
    have := u8_and_nat a b ha hb
    simp only [binOp, ne_eq, not_true_eq_false, if_false, intBits_and, this, Sem.run_pure])) hd k
/-- A shift to the right by a count. -/
theorem WX.shrN {kd kd' : IntKind} {m : Nat} (hx : ev L x = some (.int kd (a : Int))) (hy : ev L y = some (.int kd' (m : Int))) (hm : m ≤ kd.bits) (hd : Nat.blt d n = true)
    (k : WX q g P ops Q n rest ((d, .int kd ((a / 2 ^ m : Nat) : Int)) :: L) H) : WX q g P ops Q n (⟨some d, .binOp .shr t x y t', ty, pos, af, none⟩ :: rest) L H :=
  WX.val (fun ac hac w _ => run_bin (hac.ev hx) (hac.ev hy) (by unfold eqGuard; rfl) (by
    have h1 : Min.min ((m : Int).toNat) kd.bits = m := by rw [Int.toNat_natCast]; exact Nat.min_eq_left hm
    have h2 : ((a : Int).fdiv (2 ^ m)) = ((a / 2 ^ m : Nat) : Int) := by
      rw [Int.fdiv_eq_ediv_of_nonneg _ (by exact Int.le_of_lt (Int.pow_pos (by decide)))]
      norm_cast
    simp only [binOp, Op.shift]
    rw [if_neg (by omega), h1, h2]
    rfl)) hd k
end bytes
end
end Go.Sl

/-
  The rules again, under short names, with side conditions that fill themselves: for scripts.
-/
set_option linter.unusedVariables false
set_option linter.unusedSimpArgs false
namespace Go.Sl
open Go

/-- What is left of a goal of control. -/
class Go1 (G : Prop) (S : outParam Prop) : Prop where
  h : S → G
theorem go {G S : Prop} [i : Go1 G S] (h : S) : G := i.h h

section
variable {g : World} {P : Program} {ops : Array Oper} {Q : Exit → Act → World → Prop} {n : Nat} {rest os tail : List Oper} {L : Fm} {H Hc : HH} {q : Bool} {z : List (Bool × Oper)} {o : Oper}
variable {d : Nat} {ty : TypeId} {pos : String} {af : Array Edge} {v : Value}

instance {x y : Code} : Go1 (W g P (.seq x y) Q n L H) (W g P x (Exit.then (y.wp P Q) Q) n L H) := ⟨W.seq⟩
instance {id : Nat} {l : List Oper} : Go1 (W g P (.region id l.toArray false) Q n L H) (WX false g P l.toArray Q n l L H) := ⟨W.region⟩
instance : Go1 (WX q g P ops Q n [] L H) (D g Q .normal n L H) := ⟨WX.nil⟩
instance {y : Code} : Go1 (D g (Exit.then (y.wp P Q) Q) .normal n L H) (W g P y Q n L H) := ⟨D.seq⟩
instance {id : Nat} {c : Code} : Go1 (W g P (.block id c) Q n L H) (W g P c (Exit.inBlock id Q) n L H) := ⟨W.block⟩
instance {id : Nat} : Go1 (D g (Exit.inBlock id Q) .normal n L H) (D g Q .normal n L H) := ⟨D.blk⟩
instance : Go1 (W g P .skip Q n L H) (D g Q .normal n L H) := ⟨W.skip⟩
instance {id : Nat} : Go1 (W g P (.exit id) Q n L H) (D g Q (.exit id) n L H) := ⟨W.exit⟩
instance : Go1 (W g P .ret Q n L H) (D g Q .ret n L H) := ⟨W.ret⟩
instance : Go1 (D g (Qun g P ops Q Hc tail z H) .normal n L Hc) (WM g P ops Q n Hc tail z L H) := ⟨WM.backU⟩
instance {r : HH} [k : Picks Hc H r] : Go1 (D g (Qan g P ops Q Hc tail z) .normal n L H) (WM g P ops Q n Hc tail z L H) := ⟨WM.back⟩
instance {id : Nat} : Go1 (D g (Exit.inBlock id Q) (.exit id) n L H) (D g Q .normal n L H) := ⟨D.blkX⟩
instance {N : Act → World → Prop} {id : Nat} : Go1 (D g (Exit.then N Q) (.exit id) n L H) (D g Q (.exit id) n L H) := ⟨D.roundX⟩
instance {N : Act → World → Prop} : Go1 (D g (Exit.then N Q) .ret n L H) (D g Q .ret n L H) := ⟨D.roundR⟩
instance {id : Nat} : Go1 (D g (Exit.inBlock id Q) .ret n L H) (D g Q .ret n L H) := ⟨D.blkR⟩

theorem zY {id id' : Nat} (h : D g Q (.exit id') n L H) (ne : Nat.beq id' id = false := by exact rfl) : D g (Exit.inBlock id Q) (.exit id') n L H := D.blkY ne h
theorem mN (h : WX false g P ops Q n tail L H) : WM g P ops Q n Hc tail [] L H := WM.nil h
theorem mU {r : HH} [nv : NV P o] [k : Picks Hc H r] (h : WX true g P ops (Qun g P ops Q Hc tail z H) n [o] L Hc) : WM g P ops Q n Hc tail ((true, o) :: z) L H := WM.un h
theorem mA [nd : ND P o] (h : WX false g P ops (Qan g P ops Q Hc tail z) n [o] L H) : WM g P ops Q n Hc tail ((false, o) :: z) L H := WM.an h

-- conditions
section conds
variable {c : Operand} {x y : Code} {p : Prop} [Decidable p]
theorem cT (h : W g P x Q n L H) (hc : ev L c = some (.bool true) := by exact rfl) : W g P (.cond c x y) Q n L H := W.condT hc h
theorem cF (h : W g P y Q n L H) (hc : ev L c = some (.bool false) := by exact rfl) : W g P (.cond c x y) Q n L H := W.condF hc h
theorem cP (h : W g P x Q n L H) (hc : ev L c = some (.bool (decide p)) := by exact rfl) (hp : p := by first | assumption | omega) : W g P (.cond c x y) Q n L H := W.condP hc hp h
theorem cN (h : W g P y Q n L H) (hc : ev L c = some (.bool (decide p)) := by exact rfl) (hp : ¬ p := by first | assumption | omega) : W g P (.cond c x y) Q n L H := W.condN hc hp h
end conds

-- guards
section guards
variable {dst : Option Tmp} {op : Op} {j t : Nat} {want b : Bool} {p : Prop} [Decidable p]
theorem gy (k : WX q g P ops Q n (⟨dst, op, ty, pos, af, none⟩ :: rest) L H) (hj : (ops[j]?).bind (·.dst) = some t := by exact rfl) (ht : lk L t = some (.bool want) := by exact rfl) :
    WX q g P ops Q n (⟨dst, op, ty, pos, af, some (j, want)⟩ :: rest) L H := WX.gy hj ht k
theorem gn (k : WX q g P ops Q n rest ((d, undef) :: L) H) (hj : (ops[j]?).bind (·.dst) = some t := by exact rfl) (ht : lk L t = some (.bool b) := by exact rfl) (hne : (b == want) = false := by exact rfl) (hd : Nat.blt d n = true := by exact rfl) :
    WX q g P ops Q n (⟨some d, op, ty, pos, af, some (j, want)⟩ :: rest) L H := WX.gn hj ht hne hd k
theorem gnN (k : WX q g P ops Q n rest L H) (hj : (ops[j]?).bind (·.dst) = some t := by exact rfl) (ht : lk L t = some (.bool b) := by exact rfl) (hne : (b == want) = false := by exact rfl) :
    WX q g P ops Q n (⟨none, op, ty, pos, af, some (j, want)⟩ :: rest) L H := WX.gnN hj ht hne k
theorem gu (k : WX q g P ops Q n rest ((d, undef) :: L) H) (hj : (ops[j]?).bind (·.dst) = some t := by exact rfl) (ht : lk L t = some undef := by exact rfl) (hd : Nat.blt d n = true := by exact rfl) :
    WX q g P ops Q n (⟨some d, op, ty, pos, af, some (j, want)⟩ :: rest) L H := WX.gu hj ht hd k
theorem guN (k : WX q g P ops Q n rest L H) (hj : (ops[j]?).bind (·.dst) = some t := by exact rfl) (ht : lk L t = some undef := by exact rfl) :
    WX q g P ops Q n (⟨none, op, ty, pos, af, some (j, want)⟩ :: rest) L H := WX.guN hj ht k
theorem gT (k : WX q g P ops Q n (⟨dst, op, ty, pos, af, some (j, want)⟩ :: rest) ((t, .bool true) :: L) H) (hj : (ops[j]?).bind (·.dst) = some t := by exact rfl) (ht : lk L t = some (.bool (decide p)) := by exact rfl)
    (hp : p := by first | assumption | omega) : WX q g P ops Q n (⟨dst, op, ty, pos, af, some (j, want)⟩ :: rest) L H := WX.gT hj ht hp k
theorem gF (k : WX q g P ops Q n (⟨dst, op, ty, pos, af, some (j, want)⟩ :: rest) ((t, .bool false) :: L) H) (hj : (ops[j]?).bind (·.dst) = some t := by exact rfl) (ht : lk L t = some (.bool (decide p)) := by exact rfl)
    (hp : ¬ p := by first | assumption | omega) : WX q g P ops Q n (⟨dst, op, ty, pos, af, some (j, want)⟩ :: rest) L H := WX.gF hj ht hp k
theorem gS (k1 : p → WX q g P ops Q n (⟨dst, op, ty, pos, af, some (j, want)⟩ :: rest) ((t, .bool true) :: L) H) (k2 : ¬ p → WX q g P ops Q n (⟨dst, op, ty, pos, af, some (j, want)⟩ :: rest) ((t, .bool false) :: L) H)
    (hj : (ops[j]?).bind (·.dst) = some t := by exact rfl) (ht : lk L t = some (.bool (decide p)) := by exact rfl) : WX q g P ops Q n (⟨dst, op, ty, pos, af, some (j, want)⟩ :: rest) L H := WX.gS hj ht k1 k2
end guards

-- values
section vals
variable {x y c : Operand} {t t' : Nat}
theorem mv (k : WX q g P ops Q n rest ((d, v) :: L) H) (hx : ev L x = some v := by exact rfl) (hd : Nat.blt d n = true := by exact rfl) : WX q g P ops Q n (⟨some d, .move x, ty, pos, af, none⟩ :: rest) L H := WX.move hx hd k
theorem asg (k : WX q g P ops Q n rest ((d, v) :: L) H) (hx : ev L x = some v := by exact rfl) (hd : Nat.blt d n = true := by exact rfl) : WX q g P ops Q n (⟨some d, .assign x, ty, pos, af, none⟩ :: rest) L H := WX.assign hx hd k
theorem pT (k : WX q g P ops Q n rest ((d, v) :: L) H) (hc : ev L c = some (.bool true) := by exact rfl) (hx : ev L x = some v := by exact rfl) (hd : Nat.blt d n = true := by exact rfl) : WX q g P ops Q n (⟨some d, .pick c x y, ty, pos, af, none⟩ :: rest) L H := WX.pickT hc hx hd k
theorem pF (k : WX q g P ops Q n rest ((d, v) :: L) H) (hc : ev L c = some (.bool false) := by exact rfl) (hx : ev L y = some v := by exact rfl) (hd : Nat.blt d n = true := by exact rfl) : WX q g P ops Q n (⟨some d, .pick c x y, ty, pos, af, none⟩ :: rest) L H := WX.pickF hc hx hd k
theorem nc {p : Addr} (k : WX q g P ops Q n rest ((d, .pointer (some p)) :: L) H) (hx : ev L x = some (.pointer (some p)) := by exact rfl) (hd : Nat.blt d n = true := by exact rfl) : WX q g P ops Q n (⟨some d, .nilCheck x, ty, pos, af, none⟩ :: rest) L H := WX.nilCheck hx hd k
theorem fa {f b i off : Nat} [h : TF P t f off] (k : WX q g P ops Q n rest ((d, .pointer (some ⟨b, i + off, none⟩)) :: L) H) (hx : ev L x = some (.pointer (some ⟨b, i, none⟩)) := by exact rfl) (hd : Nat.blt d n = true := by exact rfl) :
    WX q g P ops Q n (⟨some d, .fieldAddr t x f, ty, pos, af, none⟩ :: rest) L H := WX.fieldAddr hx hd k
/-- What a comparison of numbers yields. -/
class CmpV (bo : BinOp) (i j : Int) (v : outParam Value) : Prop where
  h : ∀ {g : World} {P : Program} {ops : Array Oper} {Q : Exit → Act → World → Prop} {n : Nat} {rest : List Oper} {L : Fm} {H : HH} {q : Bool} {d : Nat} {ty : TypeId} {pos : String} {af : Array Edge} {x y : Operand} {t t' : Nat} {kd : IntKind},
    ev L x = some (.int kd i) → ev L y = some (.int kd j) → Nat.blt d n = true → WX q g P ops Q n rest ((d, v) :: L) H → WX q g P ops Q n (⟨some d, .binOp bo t x y t', ty, pos, af, none⟩ :: rest) L H
instance {i j : Int} : CmpV .lss i j (.bool (decide (i < j))) := ⟨WX.lss⟩
instance {i j : Int} : CmpV .leq i j (.bool (decide (i ≤ j))) := ⟨WX.leq⟩
instance {i j : Int} : CmpV .gtr i j (.bool (decide (j < i))) := ⟨WX.gtr⟩
instance {i j : Int} : CmpV .geq i j (.bool (decide (j ≤ i))) := ⟨WX.geq⟩
instance {i j : Int} : CmpV .eql i j (.bool (decide (i = j))) := ⟨WX.eql⟩
instance {i j : Int} : CmpV .neq i j (.bool (decide (¬ i = j))) := ⟨WX.neq⟩
theorem cm {bo : BinOp} {i j : Int} {kd : IntKind} (hx : ev L x = some (.int kd i)) (hy : ev L y = some (.int kd j)) [cv : CmpV bo i j v] (k : WX q g P ops Q n rest ((d, v) :: L) H) (hd : Nat.blt d n = true := by exact rfl) : WX q g P ops Q n (⟨some d, .binOp bo t x y t', ty, pos, af, none⟩ :: rest) L H := cv.h hx hy hd k
theorem ad {i j : Int} (k : WX q g P ops Q n rest ((d, .int .i64 (i + j)) :: L) H) (hx : ev L x = some (.int .i64 i) := by exact rfl) (hy : ev L y = some (.int .i64 j) := by exact rfl) (hd : Nat.blt d n = true := by exact rfl)
    (r : -9223372036854775808 ≤ i + j ∧ i + j ≤ 9223372036854775807 := by omega) : WX q g P ops Q n (⟨some d, .binOp .add t x y t', ty, pos, af, none⟩ :: rest) L H := WX.add hx hy hd r k
theorem su {i j : Int} (k : WX q g P ops Q n rest ((d, .int .i64 (i - j)) :: L) H) (hx : ev L x = some (.int .i64 i) := by exact rfl) (hy : ev L y = some (.int .i64 j) := by exact rfl) (hd : Nat.blt d n = true := by exact rfl)
    (r : -9223372036854775808 ≤ i - j ∧ i - j ≤ 9223372036854775807 := by omega) : WX q g P ops Q n (⟨some d, .binOp .sub t x y t', ty, pos, af, none⟩ :: rest) L H := WX.sub' hx hy hd r k
theorem mu {i j : Int} (k : WX q g P ops Q n rest ((d, .int .i64 (i * j)) :: L) H) (hx : ev L x = some (.int .i64 i) := by exact rfl) (hy : ev L y = some (.int .i64 j) := by exact rfl) (hd : Nat.blt d n = true := by exact rfl)
    (r : -9223372036854775808 ≤ i * j ∧ i * j ≤ 9223372036854775807 := by omega) : WX q g P ops Q n (⟨some d, .binOp .mul t x y t', ty, pos, af, none⟩ :: rest) L H := WX.mul hx hy hd r k
theorem re {i j : Int} {kd : IntKind} (k : WX q g P ops Q n rest ((d, .int kd (i.tmod j)) :: L) H) (hx : ev L x = some (.int kd i) := by exact rfl) (hy : ev L y = some (.int kd j) := by exact rfl) (hd : Nat.blt d n = true := by exact rfl)
    (r : j ≠ 0 := by omega) : WX q g P ops Q n (⟨some d, .binOp .rem t x y t', ty, pos, af, none⟩ :: rest) L H := WX.rem hx hy hd r k
/-- A pointer held against nil. -/
class NilV (bo : BinOp) (p : Option Addr) (v : outParam Value) : Prop where
  h : ∀ {g : World} {P : Program} {ops : Array Oper} {Q : Exit → Act → World → Prop} {n : Nat} {rest : List Oper} {L : Fm} {H : HH} {q : Bool} {d : Nat} {ty : TypeId} {pos : String} {af : Array Edge} {x y : Operand} {t t' e : Nat} [ht : TU P t (.pointer e)],
    ev L x = some (.pointer p) → ev L y = some (.pointer none) → Nat.blt d n = true → WX q g P ops Q n rest ((d, v) :: L) H → WX q g P ops Q n (⟨some d, .binOp bo t x y t', ty, pos, af, none⟩ :: rest) L H
instance {p : Addr} : NilV .eql (some p) (.bool false) := ⟨fun h1 h2 h3 k => WX.eqPN h1 h2 h3 k⟩
instance {p : Addr} : NilV .neq (some p) (.bool true) := ⟨fun h1 h2 h3 k => WX.nePN h1 h2 h3 k⟩
instance : NilV .eql none (.bool true) := ⟨fun h1 h2 h3 k => WX.eqNN h1 h2 h3 k⟩
instance : NilV .neq none (.bool false) := ⟨fun h1 h2 h3 k => WX.neNN h1 h2 h3 k⟩
theorem np {bo : BinOp} {p : Option Addr} {e : Nat} [ht : TU P t (.pointer e)] (hx : ev L x = some (.pointer p)) (hy : ev L y = some (.pointer none)) [cv : NilV bo p v] (k : WX q g P ops Q n rest ((d, v) :: L) H) (hd : Nat.blt d n = true := by exact rfl) : WX q g P ops Q n (⟨some d, .binOp bo t x y t', ty, pos, af, none⟩ :: rest) L H := cv.h hx hy hd k
theorem eS {a b : ByteArray} [ht : TU P t .string] (k : WX q g P ops Q n rest ((d, .bool (decide (a = b))) :: L) H) (hx : ev L x = some (.string a) := by exact rfl) (hy : ev L y = some (.string b) := by exact rfl) (hd : Nat.blt d n = true := by exact rfl) :
    WX q g P ops Q n (⟨some d, .binOp .eql t x y t', ty, pos, af, none⟩ :: rest) L H := WX.eqlS hx hy hd k
theorem nS {a b : ByteArray} [ht : TU P t .string] (k : WX q g P ops Q n rest ((d, .bool (decide (¬ a = b))) :: L) H) (hx : ev L x = some (.string a) := by exact rfl) (hy : ev L y = some (.string b) := by exact rfl) (hd : Nat.blt d n = true := by exact rfl) :
    WX q g P ops Q n (⟨some d, .binOp .neq t x y t', ty, pos, af, none⟩ :: rest) L H := WX.neqS hx hy hd k
theorem nD {p : Prop} [Decidable p] (k : WX q g P ops Q n rest ((d, .bool (decide (¬ p))) :: L) H) (hx : ev L x = some (.bool (decide p)) := by exact rfl) (hd : Nat.blt d n = true := by exact rfl) : WX q g P ops Q n (⟨some d, .unOp .not t x, ty, pos, af, none⟩ :: rest) L H := WX.notD hx hd k
theorem nt {b : Bool} (k : WX q g P ops Q n rest ((d, .bool (!b)) :: L) H) (hx : ev L x = some (.bool b) := by exact rfl) (hd : Nat.blt d n = true := by exact rfl) : WX q g P ops Q n (⟨some d, .unOp .not t x, ty, pos, af, none⟩ :: rest) L H := WX.not hx hd k
theorem l1 {e : Nat} {p : Option Addr} {l c : Nat} [ht : TU P t (.slice e)] (k : WX q g P ops Q n rest ((d, .int .i64 l) :: L) H) (hx : ev L x = some (.slice p l c) := by exact rfl) (hd : Nat.blt d n = true := by exact rfl) :
    WX q g P ops Q n (⟨some d, .call ⟨.builtin .len, #[x], #[t]⟩, ty, pos, af, none⟩ :: rest) L H := WX.len hx hd k
theorem lS {s : ByteArray} [ht : TU P t .string] (k : WX q g P ops Q n rest ((d, .int .i64 s.size) :: L) H) (hx : ev L x = some (.string s) := by exact rfl) (hd : Nat.blt d n = true := by exact rfl) :
    WX q g P ops Q n (⟨some d, .call ⟨.builtin .len, #[x], #[t]⟩, ty, pos, af, none⟩ :: rest) L H := WX.lenS hx hd k
theorem mi {i j : Int} {kd : IntKind} {ts : Array TypeId} (k : WX q g P ops Q n rest ((d, .int kd (if j < i then j else i)) :: L) H) (hx : ev L x = some (.int kd i) := by exact rfl) (hy : ev L y = some (.int kd j) := by exact rfl) (hd : Nat.blt d n = true := by exact rfl) :
    WX q g P ops Q n (⟨some d, .call ⟨.builtin .min, #[x, y], ts⟩, ty, pos, af, none⟩ :: rest) L H := WX.min hx hy hd k
theorem ma {i j : Int} {kd : IntKind} {ts : Array TypeId} (k : WX q g P ops Q n rest ((d, .int kd (if j > i then j else i)) :: L) H) (hx : ev L x = some (.int kd i) := by exact rfl) (hy : ev L y = some (.int kd j) := by exact rfl) (hd : Nat.blt d n = true := by exact rfl) :
    WX q g P ops Q n (⟨some d, .call ⟨.builtin .max, #[x, y], ts⟩, ty, pos, af, none⟩ :: rest) L H := WX.max hx hy hd k
theorem ex {i : Nat} {vs : List Value} (k : WX q g P ops Q n rest ((d, v) :: L) H) (hx : ev L x = some (.tuple vs.toArray) := by exact rfl) (hi : vs[i]? = some v := by exact rfl) (hd : Nat.blt d n = true := by exact rfl) :
    WX q g P ops Q n (⟨some d, .extract x i, ty, pos, af, none⟩ :: rest) L H := WX.extract hx hi hd k
end vals

-- memory
section mem
variable {x y z : Operand} {t t' b i T m : Nat} {ag : Bool} {cs cs' vs : List Value} {fr : Nat × Nat} {K : Obj → HH}
theorem ld [ht : TL P t 1 false] (hx : ev L x = some (.pointer (some ⟨b, i, none⟩))) [hf : Foc b (.cells (List.toArray cs) T fr) H K] (k : WX q g P ops Q n rest ((d, v) :: L) H) (hc : cs[i]? = some v := by exact rfl) (hd : Nat.blt d n = true := by exact rfl) :
    WX q g P ops Q n (⟨some d, .load t x, ty, pos, af, none⟩ :: rest) L H := WX.load hx hc hd k
theorem lA [ht : TL P t m true] (hx : ev L x = some (.pointer (some ⟨b, i, none⟩))) [hf : Foc b (.cells (List.toArray cs) T fr) H K] (k : WX q g P ops Q n rest ((d, .agg vs.toArray) :: L) H)
    (hc : (cs.drop i).take m = vs := by first | exact whole rfl | (simp only [Enc.enc, Nat.zero_add, Nat.reduceAdd, List.drop_zero, List.drop_succ_cons, List.take_succ_cons, List.take_zero]; rfl)) (hl : vs.length = m := by exact rfl) (hd : Nat.blt d n = true := by exact rfl) :
    WX q g P ops Q n (⟨some d, .load t x, ty, pos, af, none⟩ :: rest) L H := WX.loadA hx hc hl hd k
theorem st [ht : TL P t 1 false] (hx : ev L x = some (.pointer (some ⟨b, i, none⟩))) (hy : ev L y = some v) [hf : Foc b (.cells (List.toArray cs) T (0, 0)) H K] (k : WX false g P ops Q n rest L (K (.cells (List.toArray cs') T (0, 0))))
    (e : cs.set i v = cs' := by first | (simp only [List.set_cons_zero, List.set_cons_succ, Nat.zero_add, Nat.reduceAdd]; rfl) | exact rfl) (h1 : v.oneCell' = true := by exact rfl) (hb : Nat.blt i cs.length = true := by exact rfl) :
    WX false g P ops Q n (⟨none, .store t x y, ty, pos, af, none⟩ :: rest) L H := by subst e; exact WX.store hx hy h1 hb k
theorem sG [ht : TL P t m ag] (hx : ev L x = some (.pointer (some ⟨b, i, none⟩))) (hy : ev L y = some v) [hf : Foc b (.cells (List.toArray cs) T (0, 0)) H K] (k : WX false g P ops Q n rest L (K (.cells (List.toArray cs') T (0, 0))))
    (hv : v.cells = vs.toArray := by exact rfl) (e : setAt cs i vs = cs' := by first | exact setAt_whole rfl | (simp only [setAt, List.set_cons_zero, List.set_cons_succ, Nat.zero_add, Nat.reduceAdd]; rfl) | exact rfl) (hl : vs.length = m := by exact rfl) (h1 : oneCells vs = true := by exact rfl)
    (hb : Nat.ble (i + vs.length) cs.length = true := by exact rfl) : WX false g P ops Q n (⟨none, .store t x y, ty, pos, af, none⟩ :: rest) L H := by subst e; exact WX.storeG hx hy hv hl h1 hb k
theorem bx (hx : ev L x = some v) (k : ∀ b, WX false g P ops Q n rest ((d, .pointer (some ⟨b, 0, none⟩)) :: L) ([(b, .cells (List.toArray vs) t (0, 0))] :: H)) (hv : v.cells = vs.toArray := by exact rfl) (hd : Nat.blt d n = true := by exact rfl) :
    WX false g P ops Q n (⟨some d, .box t x, ty, pos, af, none⟩ :: rest) L H := WX.box hx hv hd k
theorem al [hz : TZ P t vs] (k : ∀ b, WX false g P ops Q n rest ((d, .pointer (some ⟨b, 0, none⟩)) :: L) ([(b, .cells (List.toArray vs) t (0, 0))] :: H)) (hd : Nat.blt d n = true := by exact rfl) : WX false g P ops Q n (⟨some d, .alloc t, ty, pos, af, none⟩ :: rest) L H := WX.alloc hd k
theorem bd {parts : List (Nat × Operand)} {zs cs0 : List Value} {pl : List (Nat × Nat)} [hz : TZ P t zs] [hp : TP P t pl] (k : WX q g P ops Q n rest ((d, .agg cs.toArray) :: L) H) (hx : evs L (parts.map (·.2)) = some vs := by exact rfl)
    (hf' : fillL pl zs ((parts.map (·.1)).zip vs) = some cs0 := by exact rfl) (e : cs0 = cs := by first | (simp only [setAt, Value.cells, List.set_cons_zero, List.set_cons_succ]; rfl) | exact rfl) (hd : Nat.blt d n = true := by exact rfl) :
    WX q g P ops Q n (⟨some d, .build t parts.toArray, ty, pos, af, none⟩ :: rest) L H := by subst e; exact WX.build hx hf' hd k
/-- An element of an array behind a pointer. -/
theorem iP {len e off : Nat} {j : Int} {kd : IntKind} [ht : TU P t (.array len e)] [hl : TL P e m ag] (k : WX q g P ops Q n rest ((d, .pointer (some ⟨b, off + j.toNat * m, none⟩)) :: L) H) (hx : ev L x = some (.pointer (some ⟨b, off, none⟩)) := by exact rfl)
    (hi : ev L y = some (.int kd j) := by exact rfl) (h0 : 0 ≤ j ∧ j < len := by omega) (hd : Nat.blt d n = true := by exact rfl) : WX q g P ops Q n (⟨some d, .indexAddr t x y, ty, pos, af, none⟩ :: rest) L H := WX.idxP hx hi h0 hd k
end mem

-- slices
section sls
variable {α : Type} [E : Enc α] {xs : List α} {y : α} {h : Hp} {K : Hp → HH} {x i : Operand} {t f m off off' k e : Nat} {ag : Bool} {kd : IntKind} {u : Value}
theorem ln [ht : TU P t (.slice e)] (hx : ev L x = some v) (hs : Rs xs v h) (kk : WX q g P ops Q n rest ((d, .int .i64 xs.length) :: L) H) (hd : Nat.blt d n = true := by exact rfl) : WX q g P ops Q n (⟨some d, .call ⟨.builtin .len, #[x], #[t]⟩, ty, pos, af, none⟩ :: rest) L H := WX.lenSl hx hs hd kk
theorem ix [ht : TU P t (.slice e)] [hl : TL P e m ag] (hx : ev L x = some v) (hi : ev L i = some (.int kd (k : Int))) (kk : WX q g P ops Q n rest ((d, eptr v k m 0) :: L) H) (hs : Rs xs v h := by assumption) (hk : xs[k]? = some y := by assumption) (hd : Nat.blt d n = true := by exact rfl) :
    WX q g P ops Q n (⟨some d, .indexAddr t x i, ty, pos, af, none⟩ :: rest) L H := WX.idx hx hi hs hk hd kk
theorem iI {j : Int} [ht : TU P t (.slice e)] [hl : TL P e m ag] (hx : ev L x = some v) (hi : ev L i = some (.int kd j)) (kk : WX q g P ops Q n rest ((d, eptr v j.toNat m 0) :: L) H) (hs : Rs xs v h := by assumption) (h0 : 0 ≤ j := by omega) (hk : xs[j.toNat]? = some y := by assumption) (hd : Nat.blt d n = true := by exact rfl) :
    WX q g P ops Q n (⟨some d, .indexAddr t x i, ty, pos, af, none⟩ :: rest) L H := WX.idxI hx hi hs h0 hk hd kk
theorem nE (hx : ev L x = some (eptr v k m off)) (kk : WX q g P ops Q n rest ((d, eptr v k m off) :: L) H) (hs : Rs xs v h := by assumption) (hk : xs[k]? = some y := by assumption) (hd : Nat.blt d n = true := by exact rfl) : WX q g P ops Q n (⟨some d, .nilCheck x, ty, pos, af, none⟩ :: rest) L H := WX.nilE hx hs hk hd kk
theorem fE (hx : ev L x = some (eptr v k m off)) [hf : TF P t f off'] (kk : WX q g P ops Q n rest ((d, eptr v k m (off + off')) :: L) H) (hs : Rs xs v h := by assumption) (hk : xs[k]? = some y := by assumption) (hd : Nat.blt d n = true := by exact rfl) :
    WX q g P ops Q n (⟨some d, .fieldAddr t x f, ty, pos, af, none⟩ :: rest) L H := WX.fieldE hx hs hk hd kk
theorem lE [ht : TL P t 1 false] (hx : ev L x = some (eptr v k m off)) (hs : Rs xs v h) [hw : Swp h H K] (kk : WX q g P ops Q n rest ((d, u) :: L) H) (hk : xs[k]? = some y := by assumption) (hms : m = Enc.sz α := by exact rfl) (ho : (Enc.enc y)[off]? = some u := by exact rfl) (hd : Nat.blt d n = true := by exact rfl) :
    WX q g P ops Q n (⟨some d, .load t x, ty, pos, af, none⟩ :: rest) L H := WX.loadE hx hs hk hms ho hd kk
theorem lF {mm : Nat} {us : List Value} [ht : TL P t mm true] (hx : ev L x = some (eptr v k m off)) (hs : Rs xs v h) [hw : Swp h H K] (kk : WX q g P ops Q n rest ((d, .agg us.toArray) :: L) H) (hk : xs[k]? = some y := by assumption) (hms : m = Enc.sz α := by exact rfl)
    (ho : ((Enc.enc y).drop off).take mm = us := by first | exact whole rfl | (simp only [Enc.enc, Nat.zero_add, Nat.reduceAdd, List.drop_zero, List.drop_succ_cons, List.take_succ_cons, List.take_zero]; rfl)) (hl : us.length = mm := by exact rfl) (hd : Nat.blt d n = true := by exact rfl) :
    WX q g P ops Q n (⟨some d, .load t x, ty, pos, af, none⟩ :: rest) L H := WX.loadEA hx hs hk hms ho hl hd kk
theorem sl [ht : TU P t (.slice e)] [hl : TL P e m ag] (hx : ev L x = some v) (hi : ev L i = some (.int kd (k : Int))) (hs : Rs xs v h) (kk : WX q g P ops Q n rest ((d, slTo v k) :: L) H) (hk : k ≤ xs.length := by omega) (hd : Nat.blt d n = true := by exact rfl) :
    WX q g P ops Q n (⟨some d, .slice t x none (some i) none, ty, pos, af, none⟩ :: rest) L H := WX.slTo hx hi hs hk hd kk
theorem cv {xs : List UInt8} {t' : Nat} [h1 : TU P t (.slice e)] [h2 : TU P e (.int .u8)] [h3 : TU P t' .string] (hx : ev L x = some v) (hs : Rs xs v h) [hw : Swp h H K] (kk : WX q g P ops Q n rest ((d, .string (strOf xs)) :: L) H) (hd : Nat.blt d n = true := by exact rfl) :
    WX q g P ops Q n (⟨some d, .convert t t' x, ty, pos, af, none⟩ :: rest) L H := WX.strOf hx hs hd kk
end sls
end

-- a cut: what stands behind a piece, however it got there
section cuts
variable {g : World} {P : Program} {ops : Array Oper} {Q Q' : Exit → Act → World → Prop} {n : Nat} {os : List Oper} {L : Fm} {H : HH}
theorem upon_mono {o : Oper} {a : Act} {K K' : Act → World → Prop} (h : ∀ a w, K a w → K' a w) (hq : ∀ e a w, Q e a w → Q' e a w) {r : Result Next} (hh : o.upon P a K Q r) : o.upon P a K' Q' r := by
  have hl : LetsOut Q → LetsOut Q' := fun ⟨a, w, h⟩ => ⟨a, w, hq _ _ _ h⟩
  cases r with
  | ok n w' =>
    cases n <;> simp only [Oper.upon] at hh ⊢ <;>
      first
        | exact h _ _ hh
        | exact Calls.mono hh (fun e w'' he => by cases e <;> first | exact h _ _ he | exact hq _ _ _ he | exact hl he)
        | exact Rows.mono hh (fun _ _ he => h _ _ he)
  | halt x w' => cases x <;> simp only [Oper.upon] at hh ⊢ <;> first | exact hq _ _ _ hh | exact hh
theorem wpList_mono (hq : ∀ e a w, Q e a w → Q' e a w) : ∀ (os : List Oper) (a : Act) (w : World), wpList P ops Q os a w → wpList P ops Q' os a w
  | [], a, w, h => hq _ _ _ h
  | o :: rest, a, w, h => by
    simp only [wpList] at h ⊢
    split
    · rename_i hw
      rw [if_pos hw] at h
      rcases h with h | ⟨h1, a', w', h2⟩
      · exact .inl (upon_mono (fun a w => wpList_mono hq rest a w) hq h)
      · exact .inr ⟨h1, a', w', hq _ _ _ h2⟩
    · rename_i hw
      rw [if_neg hw] at h
      exact wpList_mono hq rest _ _ h
def At (g : World) (n : Nat) (L : Fm) (H : HH) : Act → World → Prop := fun a w => Fr n L a ∧ on g H.flatten w
theorem then_mono {N N' : Act → World → Prop} (h : ∀ a w, N a w → N' a w) : ∀ e a w, Exit.then N Q e a w → Exit.then N' Q e a w := by
  intro e a w hh
  cases e <;> first | exact h _ _ hh | exact hh
theorem WX.cut {y : Code} (L' : Fm) (H' : HH) (h1 : WX false g P ops (Exit.then (At g n L' H') Q) n os L H) (h2 : W g P y Q n L' H') : WX false g P ops (Exit.then (y.wp P Q) Q) n os L H :=
  .mk fun a w ha hw => wpList_mono (then_mono fun a w ⟨h3, h4⟩ => h2.run a w h3 h4) _ _ _ (h1.run a w ha hw)
theorem W.cut {x y : Code} (L' : Fm) (H' : HH) (h1 : W g P x (Exit.then (At g n L' H') Q) n L H) (h2 : W g P y Q n L' H') : W g P (.seq x y) Q n L H :=
  .mk fun a w ha hw => wp_seq (wp_mono (h1.run a w ha hw) (then_mono fun a w ⟨h3, h4⟩ => h2.run a w h3 h4))
theorem D.at {L' : Fm} {H' : HH} (f : Fsub L L') (s : Hsub H H') : D g (Exit.then (At g n L' H') Q) .normal n L H := .mk fun _ _ ha hw => ⟨ha.sub f, s.on hw⟩
end cuts
end Go.Sl

/-
  Maps whose keys are numbers: made, looked up, written, entries taken away, ranged over; function values.
-/
set_option linter.unusedVariables false
set_option linter.unusedSimpArgs false
namespace Go.Sl
open Go

/-- An entry. -/
structure Me where
  k : Int
  v : Value
  born : Nat
def Me.e (x : Me) : MapEntry := { key := .int .i64 x.k, val := x.v, born := x.born }
/-- A map's object. -/
def mob (l : List Me) (c : Nat) : Obj := .map (l.map Me.e).toArray c
/-- An iterator over it that has come by these entries. -/
def itob (b c : Nat) (vis : List Me) : Obj := .mapIter (some b) c (vis.map (·.born)).toArray c
structure MpOk (l : List Me) (c : Nat) : Prop where
  ks : (l.map (·.k)).Nodup
  bs : (l.map (·.born)).Nodup
  lt : ∀ x ∈ l, x.born < c
def mfind (l : List Me) (k : Int) : Option Me := l.find? fun x => decide (x.k = k)
/-- m[k]: the zero z where there is none. -/
def mval (l : List Me) (k : Int) (z : Value) : Value := match mfind l k with
  | some x => x.v
  | none => z
class TZV (P : Program) (t : Nat) (z : outParam Value) : Prop where
  h : ((P.info? t).bind (·.zero)) = some z
theorem TZV.run {P : Program} {t : Nat} {z : Value} (h : TZV P t z) {w : World} : (zeroValue t).run P w = .ok z w := by
  have := h.h
  cases hi : P.info? t with
  | none => simp [hi] at this
  | some i => simp only [hi, Option.bind_some] at this; simp [zeroValue, typeInfo, hi, this]

theorem MpOk.new : MpOk [] 0 := ⟨by simp, by simp, by simp⟩
theorem MpOk.put {l : List Me} {c : Nat} (h : MpOk l c) {k : Int} (hk : mfind l k = none) (v : Value) : MpOk (l ++ [⟨k, v, c⟩]) (c + 1) := by
  refine ⟨?_, ?_, fun x hx => ?_⟩
  · rw [List.map_append, List.nodup_append]
    refine ⟨h.ks, by simp, fun a ha b hb => ?_⟩
    simp at hb
    subst hb
    rintro rfl
    obtain ⟨x, hx, hxk⟩ := List.mem_map.1 ha
    have := List.find?_eq_none.1 hk x hx
    simp [hxk] at this
  · rw [List.map_append, List.nodup_append]
    refine ⟨h.bs, by simp, fun a ha b hb => ?_⟩
    simp at hb
    subst hb
    obtain ⟨x, hx, hxb⟩ := List.mem_map.1 ha
    have := h.lt x hx
    omega
  · rcases List.mem_append.1 hx with hx | hx
    · have := h.lt x hx; omega
    · rw [List.mem_singleton] at hx; subst hx; simp
theorem MpOk.del {l : List Me} {c : Nat} (h : MpOk l c) (p : Me → Bool) : MpOk (l.filter p) c :=
  ⟨h.ks.sublist (List.filter_sublist.map _), h.bs.sublist (List.filter_sublist.map _), fun x hx => h.lt x (List.mem_filter.1 hx).1⟩

def fnd (k : Int) : List Me → Nat → Option (Nat × Value)
  | [], _ => none
  | x :: r, i => if k = x.k then some (i, x.v) else fnd k r (i + 1)
theorem findNow_fnd {kd : IntKind} {k : Int} : ∀ (l : List Me) (i : Nat), Instr.findNow (.int kd) (.int .i64 k) (l.map Me.e) i = some (fnd k l i)
  | [], i => rfl
  | x :: r, i => by
    simp only [List.map_cons, Instr.findNow, Me.e, Instr.sameNow, if_true, fnd]
    by_cases h : k = x.k
    · simp [h]
    · have : (k == x.k) = false := by simpa using h
      simp only [this, if_neg h]
      exact findNow_fnd r (i + 1)
theorem fnd_val {k : Int} : ∀ (l : List Me) (i : Nat), (fnd k l i).map Prod.snd = (mfind l k).map (·.v)
  | [], i => rfl
  | x :: r, i => by
    simp only [fnd, mfind, List.find?_cons]
    by_cases h : k = x.k
    · simp [h]
    · have h2 : ¬ x.k = k := fun e => h e.symm
      simp only [if_neg h, decide_eq_false h2]
      exact fnd_val r (i + 1)
theorem fnd_none {k : Int} {l : List Me} (h : mfind l k = none) (i : Nat) : fnd k l i = none := by
  have := fnd_val (k := k) l i
  rw [h] at this
  cases hf : fnd k l i with
  | none => rfl
  | some x => rw [hf] at this; cases this
theorem fnd_erase {k : Int} : ∀ (l : List Me) (i j : Nat) (v : Value), (l.map (·.k)).Nodup → fnd k l i = some (j, v) → i ≤ j ∧ j - i < l.length ∧ l.eraseIdx (j - i) = l.filter fun x => decide (x.k ≠ k)
  | [], i, j, v, _, h => by cases h
  | x :: r, i, j, v, hn, h => by
    simp only [fnd] at h
    rw [List.map_cons, List.nodup_cons] at hn
    by_cases hk : k = x.k
    · rw [if_pos hk] at h
      cases h
      refine ⟨Nat.le_refl _, by simp, ?_⟩
      rw [Nat.sub_self, List.eraseIdx_zero, List.tail_cons, List.filter_cons]
      rw [if_neg (by simp [hk])]
      symm
      rw [List.filter_eq_self]
      intro y hy
      have : ¬ y.k = x.k := fun e => hn.1 (List.mem_map.2 ⟨y, hy, e⟩)
      simpa [hk] using this
    · rw [if_neg hk] at h
      obtain ⟨h1, h2, h3⟩ := fnd_erase r (i + 1) j v hn.2 h
      refine ⟨by omega, by simp; omega, ?_⟩
      rw [show j - i = (j - (i + 1)) + 1 by omega, List.eraseIdx_cons_succ, h3, List.filter_cons, if_pos (by simpa using fun e => hk e.symm)]

theorem born_inj {l : List Me} (hn : (l.map (·.born)).Nodup) {a b : Me} (ha : a ∈ l) (hb : b ∈ l) (hab : a.born = b.born) : a = b := by
  induction l with
  | nil => cases ha
  | cons y r ih =>
    rw [List.map_cons, List.nodup_cons] at hn
    rcases List.mem_cons.1 ha with e1 | ha' <;> rcases List.mem_cons.1 hb with e2 | hb'
    · rw [e1, e2]
    · exact absurd (List.mem_map.2 ⟨b, hb', by rw [← hab, e1]⟩) hn.1
    · exact absurd (List.mem_map.2 ⟨a, ha', by rw [hab, e2]⟩) hn.1
    · exact ih hn.2 ha' hb'
section
variable {g : World} {P : Program} {ops : Array Oper} {Q : Exit → Act → World → Prop} {n : Nat} {rest : List Oper} {L : Fm} {H : HH} {q : Bool}
variable {d : Nat} {ty : TypeId} {pos : String} {af : Array Edge} {v : Value}
variable {x i y : Operand} {t kt et b c : Nat} {k : Int} {l : List Me} {K : Obj → HH}

def notCells : Obj → Bool
  | .cells .. => false
  | _ => true
theorem run_getObj_of {w : World} {b : Nat} {o : Obj} (h : w.heap[b]? = some o) (hn : notCells o = true) : (getObj b).run P w = .ok o w := by
  simp only [getObj, Sem.run]
  rw [h]
  cases o <;> first | rfl | cases hn
theorem run_setObj_of {w : World} {b : Nat} {o o' : Obj} (h : w.heap[b]? = some o) (hn : notCells o = true) : (setObj b o').run P w = .ok () { w with heap := w.heap.setIfInBounds b o' } := by
  show (match w.heap[b]? with
    | some (.cells ..) => Result.halt (.stuck "setObj: a row of cells") w
    | some _ => (Sem.pure ()).run P { w with heap := w.heap.setIfInBounds b o' }
    | none => .halt (.stuck "setObj: no such block") w) = _
  rw [h]
  cases o <;> first | rfl | cases hn
theorem run_findKey {w : World} [hk : TU P kt (.int .i64)] : (Instr.findKey kt (.int .i64 k) (l.map Me.e)).run P w = .ok (fnd k l 0) w := by
  unfold Instr.findKey
  rw [Sem.run_bind, hk.run]
  simp only [Result.andThen_ok, findNow_fnd]
  rfl
theorem run_checkKey {w : World} {e : Bool} [hk : TU P kt (.int .i64)] : (Instr.checkKey e 10000 kt (.int .i64 k)).run P w = .ok () w := by
  unfold Instr.checkKey
  simp [hk.run]
theorem run_getMap {w : World} (hh : w.heap[b]? = some (mob l c)) : (getObj b).run P w = .ok (.map (l.map Me.e).toArray c) w := by
  exact run_getObj_of hh rfl

theorem WX.makeMap (hd : Nat.blt d n = true) (kk : ∀ b, WX false g P ops Q n rest ((d, .map (some b)) :: L) ([(b, mob [] 0)] :: H)) : WX false g P ops Q n (⟨some d, .makeMap t none, ty, pos, af, none⟩ :: rest) L H :=
  WX.eff hd (fun a w ha hw => ⟨.map (some w.heap.size), w.alloc (mob [] 0), _, by simp [execOp, Instr.makeMap, mob], by simpa using hw.alloc (mob [] 0), kk w.heap.size⟩)

theorem WX.lookup {z : Value} (hx : ev L x = some (.map (some b))) (hi : ev L i = some (.int .i64 k)) [ht : TU P t (.map kt et)] [hk : TU P kt (.int .i64)] [hz : TZV P et z] [hf : Foc b (mob l c) H K] (hd : Nat.blt d n = true)
    (kk : WX q g P ops Q n rest ((d, mval l k z) :: L) H) : WX q g P ops Q n (⟨some d, .lookup t x i false, ty, pos, af, none⟩ :: rest) L H :=
  WX.val (fun a ha w hw => by
    have h1 := run_getMap (P := P) (hf.heap hw)
    have h2 : ((l.map Me.e).toArray.toList) = l.map Me.e := rfl
    have h3 := fnd_val (k := k) l 0
    simp only [execOp, ha.ev hx, ha.ev hi, Instr.lookup, Sem.run_bind, ht.run, h1, Result.andThen_ok, run_checkKey, h2, run_findKey, Sem.run_pure]
    unfold mval
    cases hf : fnd k l 0 with
    | none =>
      rw [hf] at h3
      cases hm : mfind l k with
      | none => simp [hz.run]
      | some x => rw [hm] at h3; cases h3
    | some jv =>
      rw [hf] at h3
      cases hm : mfind l k with
      | none => rw [hm] at h3; cases h3
      | some x =>
        rw [hm] at h3
        simp only [Option.map_some, Option.some.injEq] at h3
        simp [h3]) hd kk
theorem WX.lookupOk {z : Value} (hx : ev L x = some (.map (some b))) (hi : ev L i = some (.int .i64 k)) [ht : TU P t (.map kt et)] [hk : TU P kt (.int .i64)] [hz : TZV P et z] [hf : Foc b (mob l c) H K] (hd : Nat.blt d n = true)
    (kk : WX q g P ops Q n rest ((d, .tuple #[mval l k z, .bool (mfind l k).isSome]) :: L) H) : WX q g P ops Q n (⟨some d, .lookup t x i true, ty, pos, af, none⟩ :: rest) L H :=
  WX.val (fun a ha w hw => by
    have h1 := run_getMap (P := P) (hf.heap hw)
    have h2 : ((l.map Me.e).toArray.toList) = l.map Me.e := rfl
    have h3 := fnd_val (k := k) l 0
    simp only [execOp, ha.ev hx, ha.ev hi, Instr.lookup, Sem.run_bind, ht.run, h1, Result.andThen_ok, run_checkKey, h2, run_findKey, Sem.run_pure]
    unfold mval
    cases hf : fnd k l 0 with
    | none =>
      rw [hf] at h3
      cases hm : mfind l k with
      | none => simp [hz.run]
      | some x => rw [hm] at h3; cases h3
    | some jv =>
      rw [hf] at h3
      cases hm : mfind l k with
      | none => rw [hm] at h3; cases h3
      | some x =>
        rw [hm] at h3
        simp only [Option.map_some, Option.some.injEq] at h3
        simp [h3]) hd kk
theorem WX.lenMap (hx : ev L x = some (.map (some b))) [ht : TU P t (.map kt et)] [hf : Foc b (mob l c) H K] (hd : Nat.blt d n = true) (kk : WX q g P ops Q n rest ((d, .int .i64 l.length) :: L) H) :
    WX q g P ops Q n (⟨some d, .call ⟨.builtin .len, #[x], #[t]⟩, ty, pos, af, none⟩ :: rest) L H :=
  WX.val (fun a ha w hw => run_bi (args := [x]) (vs := [.map (some b)]) (by simp [ha.ev hx]) (by
    have h1 := run_getMap (P := P) (hf.heap hw)
    simp [builtin, Builtin.len_, ht.run, h1, goInt])) hd kk
theorem map_set {w : World} {o o' : Obj} (hf : Foc b o H K) (hno : notCells o = true) (hw : on g H.flatten w) : ∃ w', (setObj b o').run P w = .ok () w' ∧ on g (K o').flatten w' := by
  refine ⟨{ w with heap := w.heap.setIfInBounds b o' }, run_setObj_of (hf.heap hw) hno, ?_⟩
  have hlt : b < w.heap.size := hw.lt hf.mem
  exact hf.set hw ⟨rfl, rfl, rfl, by simp⟩ (by simp [hlt]) (fun k hk => by rw [Array.getElem?_setIfInBounds_ne (fun e => hk e.symm)])
/-- A new entry. -/
theorem WX.mapPut (hx : ev L x = some (.map (some b))) (hi : ev L i = some (.int .i64 k)) (hy : ev L y = some v) [ht : TU P t (.map kt et)] [hk : TU P kt (.int .i64)] [hf : Foc b (mob l c) H K] (hn : mfind l k = none)
    (kk : WX false g P ops Q n rest L (K (mob (l ++ [⟨k, v, c⟩]) (c + 1)))) : WX false g P ops Q n (⟨none, .mapUpdate t x i y, ty, pos, af, none⟩ :: rest) L H :=
  WX.effS (fun a w ha hw => by
    have h1 := run_getMap (P := P) (hf.heap hw)
    have h2 : ((l.map Me.e).toArray.toList) = l.map Me.e := rfl
    obtain ⟨w', e1, e2⟩ := map_set (P := P) (o' := mob (l ++ [⟨k, v, c⟩]) (c + 1)) hf rfl hw
    refine ⟨w', _, ?_, e2, kk⟩
    have e3 : (Obj.map ((l.map Me.e).toArray.push { key := .int .i64 k, val := v, born := c }) (c + 1)) = mob (l ++ [⟨k, v, c⟩]) (c + 1) := by simp [mob, Me.e]
    simp only [execOp, ha.ev hx, ha.ev hi, ha.ev hy, Instr.mapUpdate, Sem.run_bind, ht.run, h1, Result.andThen_ok, run_checkKey, h2, run_findKey, fnd_none hn, e3, e1, Sem.run_pure])
theorem WX.mapDel (hx : ev L x = some (.map (some b))) (hi : ev L i = some (.int .i64 k)) [ht : TU P t (.map kt et)] [hk : TU P kt (.int .i64)] [hf : Foc b (mob l c) H K] (hn : (l.map (·.k)).Nodup)
    (kk : WX false g P ops Q n rest L (K (mob (l.filter fun x => decide (x.k ≠ k)) c))) : WX false g P ops Q n (⟨none, .call ⟨.builtin .delete, #[x, i], #[t, kt]⟩, ty, pos, af, none⟩ :: rest) L H :=
  WX.effN (fun a w ha hw => by
    have h1 := run_getMap (P := P) (hf.heap hw)
    have h2 : ((l.map Me.e).toArray.toList) = l.map Me.e := rfl
    obtain ⟨w', e1, e2⟩ := map_set (P := P) (o' := mob (l.filter fun x => decide (x.k ≠ k)) c) hf rfl hw
    refine ⟨.tuple #[], w', _, run_bi (args := [x, i]) (vs := [.map (some b), .int .i64 k]) (by simp [ha.ev hx, ha.ev hi]) ?_, e2, kk⟩
    have hc : (Instr.checkKey ((l.map Me.e).toArray.isEmpty) 10000 kt (.int .i64 k)).run P w = .ok () w := run_checkKey
    cases hf2 : fnd k l 0 with
    | none =>
      have hno : l.filter (fun x => decide (x.k ≠ k)) = l := by
        rw [List.filter_eq_self]
        intro y hy
        have h3 := fnd_val (k := k) l 0
        rw [hf2] at h3
        cases hm : mfind l k with
        | some x => rw [hm] at h3; cases h3
        | none => have := List.find?_eq_none.1 hm y hy; simpa using this
      rw [hno] at e1
      have e1' : (setObj b (.map (l.map Me.e).toArray c)).run P w = .ok () w' := e1
      have hd2 : (Builtin.delete_ #[t, kt] ty #[.map (some b), .int .i64 k]).run P w = .ok (.tuple #[]) w' := by
        unfold Builtin.delete_
        simp only [List.getElem?_toArray, List.getElem?_cons_zero, List.getElem?_cons_succ, Sem.run_bind, ht.run, Result.andThen_ok, h1, hc, h2, run_findKey, hf2, e1', Sem.run_pure]
      simp only [builtin, Sem.run_bind, hd2, Result.andThen_ok, Sem.run_pure]
    | some jv =>
      obtain ⟨j, v⟩ := jv
      obtain ⟨h4, h5, h6⟩ := fnd_erase l 0 j v hn hf2
      rw [Nat.sub_zero] at h5 h6
      have e4 : (Obj.map ((l.map Me.e).toArray.eraseIdxIfInBounds j) c) = mob (l.filter fun x => decide (x.k ≠ k)) c := by
        rw [← h6]
        unfold mob
        congr 1
        rw [Array.eraseIdxIfInBounds, dif_pos (by simpa using h5)]
        apply Array.toList_inj.1
        simp [List.eraseIdx_eq_take_drop_succ, List.map_take, List.map_drop]
      have e1' : (setObj b (.map ((l.map Me.e).toArray.eraseIdxIfInBounds j) c)).run P w = .ok () w' := by rw [e4]; exact e1
      have hd2 : (Builtin.delete_ #[t, kt] ty #[.map (some b), .int .i64 k]).run P w = .ok (.tuple #[]) w' := by
        unfold Builtin.delete_
        simp only [List.getElem?_toArray, List.getElem?_cons_zero, List.getElem?_cons_succ, Sem.run_bind, ht.run, Result.andThen_ok, h1, hc, h2, run_findKey, hf2, e1', Sem.run_pure]
      simp only [builtin, Sem.run_bind, hd2, Result.andThen_ok, Sem.run_pure])

-- a range
theorem WX.range (hx : ev L x = some (.map (some b))) [ht : TU P t (.map kt et)] [hf : Foc b (mob l c) H K] (hd : Nat.blt d n = true) (kk : ∀ r, WX false g P ops Q n rest ((d, .pointer (some ⟨r, 0, none⟩)) :: L) ([(r, itob b c [])] :: H)) :
    WX false g P ops Q n (⟨some d, .range t x, ty, pos, af, none⟩ :: rest) L H :=
  WX.eff hd (fun a w ha hw => by
    have h1 := run_getMap (P := P) (hf.heap hw)
    exact ⟨.pointer (some ⟨w.heap.size, 0, none⟩), w.alloc (itob b c []), _, by simp [execOp, ha.ev hx, Instr.range, ht.run, h1, itob], by simpa using hw.alloc (itob b c []), kk w.heap.size⟩)
theorem run_choose_next {m : Nat} (hm : 0 < m) (w : World) : ∃ i w', (choose (.mapNext m)).run P w = .ok i w' ∧ i < m ∧ w'.heap = w.heap ∧ Amb w w' := by
  by_cases h1 : m ≤ 1
  · refine ⟨0, w, ?_, hm, rfl, Amb.refl w⟩
    simp [Question.forced, h1]
  · refine ⟨(Question.mapNext m).cut (w.tape w.drawn (.mapNext m)), w.drew, ?_, ?_, rfl, ⟨rfl, rfl, rfl, Nat.le_refl _⟩⟩
    · simp [Question.forced, h1]
    · exact Nat.mod_lt _ hm
/-- The next entry, whichever: none is left, or one that has not come by. -/
theorem WX.next {r : Nat} {vis : List Me} {K2 : Obj → HH} (hx : ev L x = some (.pointer (some ⟨r, 0, none⟩))) [hr : Foc r (itob b c vis) H K2] [hf : Foc b (mob l c) H K] (ok : MpOk l c) (hv : ∀ z ∈ vis, z ∈ l) (hd : Nat.blt d n = true)
    (k1 : (∀ z ∈ l, z ∈ vis) → WX false g P ops Q n rest ((d, .tuple #[.bool false]) :: L) H)
    (k2 : ∀ z ∈ l, z ∉ vis → WX false g P ops Q n rest ((d, .tuple #[.bool true, .int .i64 z.k, z.v]) :: L) (K2 (itob b c (vis ++ [z])))) :
    WX false g P ops Q n (⟨some d, .next x false, ty, pos, af, none⟩ :: rest) L H :=
  WX.eff hd (fun a w ha hw => by
    have hb := hf.heap hw
    have hr' := hr.heap hw
    have h1 := run_getMap (P := P) hb
    have h2 : (getObj r).run P w = .ok (itob b c vis) w := run_getObj_of hr' rfl
    have hborn : ∀ z ∈ l, ((vis.map (·.born)).toArray.contains z.born = true ↔ z ∈ vis) := by
      intro z hz
      simp only [List.contains_toArray, List.contains_eq_mem, decide_eq_true_eq, List.mem_map]
      exact ⟨fun ⟨u, hu, he⟩ => born_inj ok.bs (hv u hu) hz he ▸ hu, fun hz => ⟨z, hz, rfl⟩⟩
    have hguard : (!(vis.map (·.born)).toArray.isEmpty && !(l.map Me.e).toArray.isEmpty && (l.map Me.e).toArray.all (fun e => decide (e.born ≥ c))) = false := by
      cases l with
      | nil => simp
      | cons y r =>
        have := ok.lt y List.mem_cons_self
        have : decide (y.born ≥ c) = false := decide_eq_false (by omega)
        simp [Me.e, this]
    obtain ⟨un, hun⟩ : ∃ un, un = l.filter fun z => !(vis.map (·.born)).toArray.contains z.born := ⟨_, rfl⟩
    have hmem : ∀ z, z ∈ un ↔ z ∈ l ∧ z ∉ vis := by
      intro z
      rw [hun, List.mem_filter]
      constructor
      · rintro ⟨h3, h4⟩
        exact ⟨h3, fun h5 => by rw [(hborn z h3).2 h5] at h4; cases h4⟩
      · rintro ⟨h3, h4⟩
        refine ⟨h3, ?_⟩
        cases hc : (vis.map (·.born)).toArray.contains z.born with
        | false => rfl
        | true => exact absurd ((hborn z h3).1 hc) h4
    have hleft : ((l.map Me.e).toArray.filter fun e => !(vis.map (·.born)).toArray.contains e.born) = (un.map Me.e).toArray := by
      apply Array.toList_inj.1
      rw [Array.toList_filter, List.filter_map, hun]
      rfl
    have hold : ((un.map Me.e).toArray.filter fun e => decide (e.born < c)) = (un.map Me.e).toArray := by
      apply Array.toList_inj.1
      rw [Array.toList_filter, List.filter_eq_self]
      intro e he
      obtain ⟨z, hz, rfl⟩ := List.mem_map.1 he
      exact decide_eq_true (ok.lt z ((hmem z).1 hz).1)
    have hnew : ((un.map Me.e).toArray.filter fun e => decide (e.born ≥ c)) = #[] := by
      apply Array.toList_inj.1
      rw [Array.toList_filter, List.filter_eq_nil_iff]
      intro e he
      obtain ⟨z, hz, rfl⟩ := List.mem_map.1 he
      have := ok.lt z ((hmem z).1 hz).1
      simp [Me.e]; omega
    have hsize : 0 < ((if (un.map Me.e).toArray.isEmpty = true then #[none] else #[]) ++ ((un.map Me.e).toArray ++ #[]).map some).size := by
      cases un <;> simp
    obtain ⟨i, w1, c1, c2, c3, c4⟩ := run_choose_next (P := P) hsize w
    have key : (Instr.next (.pointer (some ⟨r, 0, none⟩)) false ty).run P w = (match ((if (un.map Me.e).toArray.isEmpty = true then #[none] else #[]) ++ ((un.map Me.e).toArray ++ #[]).map some)[i]? with
        | some (some e) => (do setObj r (.mapIter (some b) c ((vis.map Me.born).toArray.push e.born) c); pure (.tuple #[.bool true, e.key, e.val]) : Sem Value)
        | some none => pure (.tuple #[.bool false])
        | none => stuck "Next: no such candidate").run P w1 := by
      unfold Instr.next
      simp only [Sem.run_bind, h2, Result.andThen_ok, itob, h1]
      rw [hguard]
      simp only [Bool.false_eq_true, if_false, hleft, hold, hnew, Sem.run_bind, c1, Result.andThen_ok]
      rfl
    cases un with
    | nil =>
      have hi : i = 0 := by simp at c2; exact c2
      subst hi
      refine ⟨.tuple #[.bool false], w1, H, ?_, hw.heap c3 c4, k1 fun z hz => Classical.byContradiction fun h => by have := (hmem z).2 ⟨hz, h⟩; cases this⟩
      simp only [execOp, ha.ev hx, Sem.run_bind]
      rw [key]
      simp
    | cons y rr =>
      have hi : i < (y :: rr).length := by simpa using c2
      obtain ⟨z, hz⟩ : ∃ z, (y :: rr)[i]? = some z := ⟨_, List.getElem?_eq_getElem hi⟩
      obtain ⟨hz1, hz2⟩ := (hmem z).1 (List.mem_of_getElem? hz)
      have hw1 : on g H.flatten w1 := hw.heap c3 c4
      obtain ⟨w2, e1, e2⟩ := map_set (P := P) (o' := itob b c (vis ++ [z])) hr rfl hw1
      refine ⟨.tuple #[.bool true, .int .i64 z.k, z.v], w2, _, ?_, e2, k2 z hz1 hz2⟩
      simp only [execOp, ha.ev hx, Sem.run_bind]
      rw [key]
      have hget : ((if ((y :: rr).map Me.e).toArray.isEmpty = true then #[none] else #[]) ++ (((y :: rr).map Me.e).toArray ++ #[]).map some)[i]? = some (some z.e) := by
        rw [if_neg (by simp)]
        simp only [List.append_nil, Array.empty_append, Array.append_empty, Array.getElem?_map, List.getElem?_toArray, List.getElem?_map, hz, Option.map_some]
      rw [hget]
      have e3 : Obj.mapIter (some b) c ((vis.map (·.born)).toArray.push z.e.born) c = itob b c (vis ++ [z]) := by simp [itob, Me.e]
      simp only [e3, Sem.run_bind, e1, Result.andThen_ok, Sem.run_pure]
      rfl)
/-- The entry that the range stands at. -/
theorem WX.entry {r : Nat} {vis : List Me} {z : Me} {K2 : Obj → HH} (hx : ev L x = some (.pointer (some ⟨r, 0, none⟩))) [hr : Foc r (itob b c (vis ++ [z])) H K2] [hf : Foc b (mob l c) H K] (ok : MpOk l c) (hz : z ∈ l) (hd : Nat.blt d n = true)
    (kk : WX q g P ops Q n rest ((d, .tuple #[.int .i64 z.k, z.v]) :: L) H) : WX q g P ops Q n (⟨some d, .entry x, ty, pos, af, none⟩ :: rest) L H :=
  WX.val (fun a ha w hw => by
    have h1 := run_getMap (P := P) (hf.heap hw)
    have h2 : (getObj r).run P w = .ok (itob b c (vis ++ [z])) w := run_getObj_of (hr.heap hw) rfl
    have h3 : (((vis ++ [z]).map (·.born)).toArray).back? = some z.born := by simp
    have h4 : (l.map Me.e).toArray.find? (fun e => e.born == z.born) = some z.e := by
      rw [List.find?_toArray, List.find?_map]
      have : l.find? ((fun e => e.born == z.born) ∘ Me.e) = some z := by
        have hmem : ∃ u, l.find? ((fun e => e.born == z.born) ∘ Me.e) = some u := by
          cases hf : l.find? ((fun e => e.born == z.born) ∘ Me.e) with
          | some u => exact ⟨u, rfl⟩
          | none =>
            have := List.find?_eq_none.1 hf z hz
            simp [Me.e] at this
        obtain ⟨u, hu⟩ := hmem
        have h5 := List.find?_some hu
        simp only [Function.comp, Me.e, beq_iff_eq] at h5
        rw [hu, born_inj ok.bs (List.mem_of_find?_eq_some hu) hz h5]
      rw [this]; rfl
    simp only [execOp, ha.ev hx, Instr.entry, Sem.run_bind, h2, itob, Result.andThen_ok, h3, h1]
    simp only [bne_self_eq_false, Bool.false_eq_true, if_false]
    rw [h4]
    simp [Me.e]) hd kk

-- function values
theorem WX.makeFunc {fn : Fn} {first captured : List Operand} {fs cs : List Value} (h1 : evs L first = some fs) (h2 : evs L captured = some cs) (hd : Nat.blt d n = true) (kk : WX q g P ops Q n rest ((d, .func fn fs.toArray cs.toArray) :: L) H) :
    WX q g P ops Q n (⟨some d, .makeFunc fn first.toArray captured.toArray, ty, pos, af, none⟩ :: rest) L H :=
  WX.val (fun a ha w hw => by
    have e1 : first.toArray.map a.eval = fs.toArray := by rw [← ha.evs h1]; simp
    have e2 : captured.toArray.map a.eval = cs.toArray := by rw [← ha.evs h2]; simp
    simp only [execOp, e1, e2, Instr.makeFunc, Sem.run_bind, Sem.run_pure, Result.andThen_ok]) hd kk
theorem exec_callV {f : FuncId} {args : List Operand} {ts : Array TypeId} {a : Act} {vs fs cs : List Value} {u : Operand} {w : World} {dst : Option Nat} (hn : Enters P f) (hu : a.eval u = .func (.func f) fs.toArray cs.toArray) (hx : args.map a.eval = vs) :
    (execOp a.eval ⟨dst, .call ⟨.value u, args.toArray, ts⟩, ty, pos, af, none⟩).run P w = .ok (.enter f (fs ++ vs ++ cs).toArray) w := by
  have e : args.toArray.map a.eval = vs.toArray := by rw [← hx]; simp
  simp only [execOp, resolve, e, hu]
  simp [Deferred.ofValue, invoke, callFunc_run hn]
/-- A call of a function value. -/
theorem WX.callV {f : FuncId} {args : List Operand} {ts : Array TypeId} {vs fs cs : List Value} {u : Operand} {pre Hr : HH} {post : Value → HH → Prop} (hu : ev L u = some (.func (.func f) fs.toArray cs.toArray)) (hx : evs L args = some vs) [hn : Enters P f] (hc : Ct P f (fs ++ vs ++ cs) pre post) [pk : Picks pre H Hr]
    (hd : Nat.blt d n = true) (k : ∀ v H', post v H' → WX false g P ops Q n rest ((d, v) :: L) (H' ++ Hr)) : WX false g P ops Q n (⟨some d, .call ⟨.value u, args.toArray, ts⟩, ty, pos, af, none⟩ :: rest) L H := by
  refine .mk fun a w ha hw => ?_
  have hd' : d < n := Nat.le_of_ble_eq_true hd
  refine wpList_plain rfl fun K hK => ?_
  unfold Oper.wp
  rw [exec_callV hn (ha.ev hu) (ha.evs hx)]
  refine (hc.calls g Hr.flatten w (hw.perm (by simpa using pk.p))).mono fun e w' ⟨v, H', he, hp, ho⟩ => ?_
  subst he
  exact hK _ _ (k v H' hp _ _ (ha.put hd' v) (by simpa using ho))
end
end Go.Sl

/-
  The zero values of this seat's types of one cell, written by wip/tys.py.
-/
set_option maxRecDepth 100000
namespace Go.Proofs
open Go.Sl
instance Try.tv2 : TZV Try.prog 2 (.int .i64 (0)) := ⟨by kernel_rfl⟩
instance Try.tv3 : TZV Try.prog 3 (.int .i64 (0)) := ⟨by kernel_rfl⟩
instance Try.tv4 : TZV Try.prog 4 (.bool false) := ⟨by kernel_rfl⟩
instance Try.tv5 : TZV Try.prog 5 (.int .u8 (0)) := ⟨by kernel_rfl⟩
instance Try.tv6 : TZV Try.prog 6 (.int .u8 (0)) := ⟨by kernel_rfl⟩
instance Try.tv9 : TZV Try.prog 9 (.string ByteArray.empty) := ⟨by kernel_rfl⟩
instance Try.tv10 : TZV Try.prog 10 (.string ByteArray.empty) := ⟨by kernel_rfl⟩
instance Try.tv11 : TZV Try.prog 11 (.string ByteArray.empty) := ⟨by kernel_rfl⟩
instance Try.tv12 : TZV Try.prog 12 (.int .u64 (0)) := ⟨by kernel_rfl⟩
instance Try.tv15 : TZV Try.prog 15 (.pointer none) := ⟨by kernel_rfl⟩
instance Try.tv16 : TZV Try.prog 16 (.pointer none) := ⟨by kernel_rfl⟩
instance Try.tv17 : TZV Try.prog 17 (.pointer none) := ⟨by kernel_rfl⟩
instance Try.tv21 : TZV Try.prog 21 (.int .i32 (0)) := ⟨by kernel_rfl⟩
instance Try.tv24 : TZV Try.prog 24 (.slice none 0 0) := ⟨by kernel_rfl⟩
instance Try.tv26 : TZV Try.prog 26 (.pointer none) := ⟨by kernel_rfl⟩
instance Try.tv27 : TZV Try.prog 27 (.int .i64 (0)) := ⟨by kernel_rfl⟩
instance Try.tv30 : TZV Try.prog 30 (.slice none 0 0) := ⟨by kernel_rfl⟩
instance Try.tv61 : TZV Try.prog 61 (.pointer none) := ⟨by kernel_rfl⟩
instance Try.tv63 : TZV Try.prog 63 (.pointer none) := ⟨by kernel_rfl⟩
instance Try.tv65 : TZV Try.prog 65 (.pointer none) := ⟨by kernel_rfl⟩
instance Try.tv72 : TZV Try.prog 72 (.slice none 0 0) := ⟨by kernel_rfl⟩
instance Try.tv76 : TZV Try.prog 76 (.slice none 0 0) := ⟨by kernel_rfl⟩
instance Try.tv88 : TZV Try.prog 88 (.map none) := ⟨by kernel_rfl⟩
instance Try.tv89 : TZV Try.prog 89 (.slice none 0 0) := ⟨by kernel_rfl⟩
instance Try.tv97 : TZV Try.prog 97 (.pointer none) := ⟨by kernel_rfl⟩
instance Try.tv99 : TZV Try.prog 99 (.slice none 0 0) := ⟨by kernel_rfl⟩
instance Try.tv105 : TZV Try.prog 105 (.slice none 0 0) := ⟨by kernel_rfl⟩
instance Try.tv120 : TZV Try.prog 120 (.pointer none) := ⟨by kernel_rfl⟩
instance Try.tv125 : TZV Try.prog 125 (.pointer none) := ⟨by kernel_rfl⟩
instance Try.tv129 : TZV Try.prog 129 (.pointer none) := ⟨by kernel_rfl⟩
instance Try.tv131 : TZV Try.prog 131 (.pointer none) := ⟨by kernel_rfl⟩
instance Try.tv140 : TZV Try.prog 140 (.int .u64 (0)) := ⟨by kernel_rfl⟩
instance Try.tv141 : TZV Try.prog 141 (.int .u32 (0)) := ⟨by kernel_rfl⟩
instance Try.tv144 : TZV Try.prog 144 (.pointer none) := ⟨by kernel_rfl⟩
instance Try.tv146 : TZV Try.prog 146 (.pointer none) := ⟨by kernel_rfl⟩
instance Try.tv151 : TZV Try.prog 151 (.int .i64 (0)) := ⟨by kernel_rfl⟩
instance Try.tv161 : TZV Try.prog 161 (.int .u64 (0)) := ⟨by kernel_rfl⟩
instance Try.tv162 : TZV Try.prog 162 (.slice none 0 0) := ⟨by kernel_rfl⟩
instance Try.tv166 : TZV Try.prog 166 (.pointer none) := ⟨by kernel_rfl⟩
instance Try.tv168 : TZV Try.prog 168 (.pointer none) := ⟨by kernel_rfl⟩
instance Try.tv170 : TZV Try.prog 170 (.pointer none) := ⟨by kernel_rfl⟩
instance Try.tv172 : TZV Try.prog 172 (.pointer none) := ⟨by kernel_rfl⟩
instance Try.tv174 : TZV Try.prog 174 (.int .u64 (0)) := ⟨by kernel_rfl⟩
instance Try.tv180 : TZV Try.prog 180 (.slice none 0 0) := ⟨by kernel_rfl⟩
instance Try.tv181 : TZV Try.prog 181 (.pointer none) := ⟨by kernel_rfl⟩
instance Try.tv190 : TZV Try.prog 190 (.int .u8 (0)) := ⟨by kernel_rfl⟩
instance Try.tv191 : TZV Try.prog 191 (.int .u8 (0)) := ⟨by kernel_rfl⟩
instance Try.tv193 : TZV Try.prog 193 (.pointer none) := ⟨by kernel_rfl⟩
instance Try.tv194 : TZV Try.prog 194 (.int .i32 (0)) := ⟨by kernel_rfl⟩
instance Try.tv195 : TZV Try.prog 195 (.int .i32 (0)) := ⟨by kernel_rfl⟩
end Go.Proofs
