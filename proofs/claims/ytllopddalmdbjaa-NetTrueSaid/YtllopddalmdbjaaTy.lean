/-
  Facts on the types and functions of this seat's program, written by wip/tys.py.
-/
import Derived.Test.YtllopddalmdbjaaSlH
import Derived.Test.YtllopddalmdbjaaChecked
set_option maxRecDepth 100000
namespace Go.Proofs
open Go.Sl
theorem Try.mix : Try.prog.follows .mixedOrders = true := by kernel_rfl
instance Try.tl2 : TL Try.prog 2 1 false := ⟨by kernel_rfl, by kernel_rfl⟩
instance Try.tb2 : TB Try.prog 2 8 := ⟨by kernel_rfl⟩
instance Try.tu2 : TU Try.prog 2 (.int .i64) := ⟨by kernel_rfl⟩
instance Try.tz2 : TZ Try.prog 2 [.int .i64 (0)] := TZ.of (by kernel_rfl)
instance Try.tl3 : TL Try.prog 3 1 false := ⟨by kernel_rfl, by kernel_rfl⟩
instance Try.tb3 : TB Try.prog 3 8 := ⟨by kernel_rfl⟩
instance Try.tu3 : TU Try.prog 3 (.int .i64) := ⟨by kernel_rfl⟩
instance Try.tz3 : TZ Try.prog 3 [.int .i64 (0)] := TZ.of (by kernel_rfl)
instance Try.tl4 : TL Try.prog 4 1 false := ⟨by kernel_rfl, by kernel_rfl⟩
instance Try.tb4 : TB Try.prog 4 1 := ⟨by kernel_rfl⟩
instance Try.tu4 : TU Try.prog 4 .bool := ⟨by kernel_rfl⟩
instance Try.tz4 : TZ Try.prog 4 [.bool false] := TZ.of (by kernel_rfl)
instance Try.tl5 : TL Try.prog 5 1 false := ⟨by kernel_rfl, by kernel_rfl⟩
instance Try.tb5 : TB Try.prog 5 1 := ⟨by kernel_rfl⟩
instance Try.tu5 : TU Try.prog 5 (.int .u8) := ⟨by kernel_rfl⟩
instance Try.tz5 : TZ Try.prog 5 [.int .u8 (0)] := TZ.of (by kernel_rfl)
instance Try.tl6 : TL Try.prog 6 1 false := ⟨by kernel_rfl, by kernel_rfl⟩
instance Try.tb6 : TB Try.prog 6 1 := ⟨by kernel_rfl⟩
instance Try.tu6 : TU Try.prog 6 (.int .u8) := ⟨by kernel_rfl⟩
instance Try.tz6 : TZ Try.prog 6 [.int .u8 (0)] := TZ.of (by kernel_rfl)
instance Try.tl7 : TL Try.prog 7 4 true := ⟨by kernel_rfl, by kernel_rfl⟩
instance Try.tb7 : TB Try.prog 7 24 := ⟨by kernel_rfl⟩
instance Try.tz7 : TZ Try.prog 7 [.int .i64 (0), .int .i64 (0), .bool false, .int .u8 (0)] := TZ.of (by kernel_rfl)
instance Try.tf7_0 : TF Try.prog 7 0 0 := TF.of (ft := 2) (k := 0) (by kernel_rfl)
instance Try.tg7_0 : TFt Try.prog 7 0 0 2 := TFt.of (k := 1) (by kernel_rfl)
instance Try.tf7_1 : TF Try.prog 7 1 1 := TF.of (ft := 3) (k := 0) (by kernel_rfl)
instance Try.tg7_1 : TFt Try.prog 7 1 1 3 := TFt.of (k := 1) (by kernel_rfl)
instance Try.tf7_2 : TF Try.prog 7 2 2 := TF.of (ft := 4) (k := 0) (by kernel_rfl)
instance Try.tg7_2 : TFt Try.prog 7 2 2 4 := TFt.of (k := 1) (by kernel_rfl)
instance Try.tf7_3 : TF Try.prog 7 3 3 := TF.of (ft := 6) (k := 0) (by kernel_rfl)
instance Try.tg7_3 : TFt Try.prog 7 3 3 6 := TFt.of (k := 1) (by kernel_rfl)
instance Try.tp7 : TP Try.prog 7 [(0, 1), (1, 1), (2, 1), (3, 1)] := TP.of (by kernel_rfl)
instance Try.tl8 : TL Try.prog 8 4 true := ⟨by kernel_rfl, by kernel_rfl⟩
instance Try.tb8 : TB Try.prog 8 24 := ⟨by kernel_rfl⟩
instance Try.tz8 : TZ Try.prog 8 [.int .i64 (0), .int .i64 (0), .bool false, .int .u8 (0)] := TZ.of (by kernel_rfl)
instance Try.tf8_0 : TF Try.prog 8 0 0 := TF.of (ft := 2) (k := 0) (by kernel_rfl)
instance Try.tg8_0 : TFt Try.prog 8 0 0 2 := TFt.of (k := 1) (by kernel_rfl)
instance Try.tf8_1 : TF Try.prog 8 1 1 := TF.of (ft := 3) (k := 0) (by kernel_rfl)
instance Try.tg8_1 : TFt Try.prog 8 1 1 3 := TFt.of (k := 1) (by kernel_rfl)
instance Try.tf8_2 : TF Try.prog 8 2 2 := TF.of (ft := 4) (k := 0) (by kernel_rfl)
instance Try.tg8_2 : TFt Try.prog 8 2 2 4 := TFt.of (k := 1) (by kernel_rfl)
instance Try.tf8_3 : TF Try.prog 8 3 3 := TF.of (ft := 6) (k := 0) (by kernel_rfl)
instance Try.tg8_3 : TFt Try.prog 8 3 3 6 := TFt.of (k := 1) (by kernel_rfl)
instance Try.tp8 : TP Try.prog 8 [(0, 1), (1, 1), (2, 1), (3, 1)] := TP.of (by kernel_rfl)
instance Try.tl9 : TL Try.prog 9 1 false := ⟨by kernel_rfl, by kernel_rfl⟩
instance Try.tb9 : TB Try.prog 9 16 := ⟨by kernel_rfl⟩
instance Try.tu9 : TU Try.prog 9 .string := ⟨by kernel_rfl⟩
instance Try.tz9 : TZ Try.prog 9 [.string ByteArray.empty] := TZ.of (by kernel_rfl)
instance Try.tl10 : TL Try.prog 10 1 false := ⟨by kernel_rfl, by kernel_rfl⟩
instance Try.tb10 : TB Try.prog 10 16 := ⟨by kernel_rfl⟩
instance Try.tu10 : TU Try.prog 10 .string := ⟨by kernel_rfl⟩
instance Try.tz10 : TZ Try.prog 10 [.string ByteArray.empty] := TZ.of (by kernel_rfl)
instance Try.tl11 : TL Try.prog 11 1 false := ⟨by kernel_rfl, by kernel_rfl⟩
instance Try.tb11 : TB Try.prog 11 16 := ⟨by kernel_rfl⟩
instance Try.tu11 : TU Try.prog 11 .string := ⟨by kernel_rfl⟩
instance Try.tz11 : TZ Try.prog 11 [.string ByteArray.empty] := TZ.of (by kernel_rfl)
instance Try.tl12 : TL Try.prog 12 1 false := ⟨by kernel_rfl, by kernel_rfl⟩
instance Try.tb12 : TB Try.prog 12 8 := ⟨by kernel_rfl⟩
instance Try.tu12 : TU Try.prog 12 (.int .u64) := ⟨by kernel_rfl⟩
instance Try.tz12 : TZ Try.prog 12 [.int .u64 (0)] := TZ.of (by kernel_rfl)
instance Try.tl13 : TL Try.prog 13 2 true := ⟨by kernel_rfl, by kernel_rfl⟩
instance Try.tb13 : TB Try.prog 13 24 := ⟨by kernel_rfl⟩
instance Try.tz13 : TZ Try.prog 13 [.string ByteArray.empty, .int .u64 (0)] := TZ.of (by kernel_rfl)
instance Try.tf13_0 : TF Try.prog 13 0 0 := TF.of (ft := 9) (k := 0) (by kernel_rfl)
instance Try.tg13_0 : TFt Try.prog 13 0 0 9 := TFt.of (k := 1) (by kernel_rfl)
instance Try.tf13_1 : TF Try.prog 13 1 1 := TF.of (ft := 12) (k := 0) (by kernel_rfl)
instance Try.tg13_1 : TFt Try.prog 13 1 1 12 := TFt.of (k := 1) (by kernel_rfl)
instance Try.tp13 : TP Try.prog 13 [(0, 1), (1, 1)] := TP.of (by kernel_rfl)
instance Try.tl14 : TL Try.prog 14 2 true := ⟨by kernel_rfl, by kernel_rfl⟩
instance Try.tb14 : TB Try.prog 14 24 := ⟨by kernel_rfl⟩
instance Try.tz14 : TZ Try.prog 14 [.string ByteArray.empty, .int .u64 (0)] := TZ.of (by kernel_rfl)
instance Try.tf14_0 : TF Try.prog 14 0 0 := TF.of (ft := 9) (k := 0) (by kernel_rfl)
instance Try.tg14_0 : TFt Try.prog 14 0 0 9 := TFt.of (k := 1) (by kernel_rfl)
instance Try.tf14_1 : TF Try.prog 14 1 1 := TF.of (ft := 12) (k := 0) (by kernel_rfl)
instance Try.tg14_1 : TFt Try.prog 14 1 1 12 := TFt.of (k := 1) (by kernel_rfl)
instance Try.tp14 : TP Try.prog 14 [(0, 1), (1, 1)] := TP.of (by kernel_rfl)
instance Try.tl15 : TL Try.prog 15 1 false := ⟨by kernel_rfl, by kernel_rfl⟩
instance Try.tb15 : TB Try.prog 15 8 := ⟨by kernel_rfl⟩
instance Try.tu15 : TU Try.prog 15 (.pointer 113) := ⟨by kernel_rfl⟩
instance Try.tz15 : TZ Try.prog 15 [.pointer none] := TZ.of (by kernel_rfl)
instance Try.tl16 : TL Try.prog 16 1 false := ⟨by kernel_rfl, by kernel_rfl⟩
instance Try.tb16 : TB Try.prog 16 8 := ⟨by kernel_rfl⟩
instance Try.tu16 : TU Try.prog 16 (.pointer 116) := ⟨by kernel_rfl⟩
instance Try.tz16 : TZ Try.prog 16 [.pointer none] := TZ.of (by kernel_rfl)
instance Try.tl17 : TL Try.prog 17 1 false := ⟨by kernel_rfl, by kernel_rfl⟩
instance Try.tb17 : TB Try.prog 17 8 := ⟨by kernel_rfl⟩
instance Try.tu17 : TU Try.prog 17 (.pointer 125) := ⟨by kernel_rfl⟩
instance Try.tz17 : TZ Try.prog 17 [.pointer none] := TZ.of (by kernel_rfl)
instance Try.tl18 : TL Try.prog 18 1 true := ⟨by kernel_rfl, by kernel_rfl⟩
instance Try.tb18 : TB Try.prog 18 8 := ⟨by kernel_rfl⟩
instance Try.tz18 : TZ Try.prog 18 [.pointer none] := TZ.of (by kernel_rfl)
instance Try.tf18_0 : TF Try.prog 18 0 0 := TF.of (ft := 17) (k := 0) (by kernel_rfl)
instance Try.tg18_0 : TFt Try.prog 18 0 0 17 := TFt.of (k := 1) (by kernel_rfl)
instance Try.tp18 : TP Try.prog 18 [(0, 1)] := TP.of (by kernel_rfl)
instance Try.tl19 : TL Try.prog 19 1 true := ⟨by kernel_rfl, by kernel_rfl⟩
instance Try.tb19 : TB Try.prog 19 8 := ⟨by kernel_rfl⟩
instance Try.tz19 : TZ Try.prog 19 [.pointer none] := TZ.of (by kernel_rfl)
instance Try.tf19_0 : TF Try.prog 19 0 0 := TF.of (ft := 17) (k := 0) (by kernel_rfl)
instance Try.tg19_0 : TFt Try.prog 19 0 0 17 := TFt.of (k := 1) (by kernel_rfl)
instance Try.tp19 : TP Try.prog 19 [(0, 1)] := TP.of (by kernel_rfl)
instance Try.tl21 : TL Try.prog 21 1 false := ⟨by kernel_rfl, by kernel_rfl⟩
instance Try.tb21 : TB Try.prog 21 4 := ⟨by kernel_rfl⟩
instance Try.tu21 : TU Try.prog 21 (.int .i32) := ⟨by kernel_rfl⟩
instance Try.tz21 : TZ Try.prog 21 [.int .i32 (0)] := TZ.of (by kernel_rfl)
instance Try.tl22 : TL Try.prog 22 1 false := ⟨by kernel_rfl, by kernel_rfl⟩
instance Try.tb22 : TB Try.prog 22 24 := ⟨by kernel_rfl⟩
instance Try.tu22 : TU Try.prog 22 (.slice 31) := ⟨by kernel_rfl⟩
instance Try.tz22 : TZ Try.prog 22 [.slice none 0 0] := TZ.of (by kernel_rfl)
instance Try.tl23 : TL Try.prog 23 1 false := ⟨by kernel_rfl, by kernel_rfl⟩
instance Try.tb23 : TB Try.prog 23 24 := ⟨by kernel_rfl⟩
instance Try.tu23 : TU Try.prog 23 (.slice 3) := ⟨by kernel_rfl⟩
instance Try.tz23 : TZ Try.prog 23 [.slice none 0 0] := TZ.of (by kernel_rfl)
instance Try.tl26 : TL Try.prog 26 1 false := ⟨by kernel_rfl, by kernel_rfl⟩
instance Try.tb26 : TB Try.prog 26 8 := ⟨by kernel_rfl⟩
instance Try.tu26 : TU Try.prog 26 (.pointer 92) := ⟨by kernel_rfl⟩
instance Try.tz26 : TZ Try.prog 26 [.pointer none] := TZ.of (by kernel_rfl)
instance Try.tl28 : TL Try.prog 28 1 false := ⟨by kernel_rfl, by kernel_rfl⟩
instance Try.tb28 : TB Try.prog 28 8 := ⟨by kernel_rfl⟩
instance Try.tu28 : TU Try.prog 28 (.pointer 37) := ⟨by kernel_rfl⟩
instance Try.tz28 : TZ Try.prog 28 [.pointer none] := TZ.of (by kernel_rfl)
instance Try.tl30 : TL Try.prog 30 2 true := ⟨by kernel_rfl, by kernel_rfl⟩
instance Try.tb30 : TB Try.prog 30 32 := ⟨by kernel_rfl⟩
instance Try.tz30 : TZ Try.prog 30 [.bool false, .slice none 0 0] := TZ.of (by kernel_rfl)
instance Try.tf30_0 : TF Try.prog 30 0 0 := TF.of (ft := 4) (k := 0) (by kernel_rfl)
instance Try.tg30_0 : TFt Try.prog 30 0 0 4 := TFt.of (k := 1) (by kernel_rfl)
instance Try.tf30_1 : TF Try.prog 30 1 1 := TF.of (ft := 23) (k := 0) (by kernel_rfl)
instance Try.tg30_1 : TFt Try.prog 30 1 1 23 := TFt.of (k := 1) (by kernel_rfl)
instance Try.tp30 : TP Try.prog 30 [(0, 1), (1, 1)] := TP.of (by kernel_rfl)
instance Try.tl31 : TL Try.prog 31 2 true := ⟨by kernel_rfl, by kernel_rfl⟩
instance Try.tb31 : TB Try.prog 31 32 := ⟨by kernel_rfl⟩
instance Try.tz31 : TZ Try.prog 31 [.bool false, .slice none 0 0] := TZ.of (by kernel_rfl)
instance Try.tf31_0 : TF Try.prog 31 0 0 := TF.of (ft := 4) (k := 0) (by kernel_rfl)
instance Try.tg31_0 : TFt Try.prog 31 0 0 4 := TFt.of (k := 1) (by kernel_rfl)
instance Try.tf31_1 : TF Try.prog 31 1 1 := TF.of (ft := 23) (k := 0) (by kernel_rfl)
instance Try.tg31_1 : TFt Try.prog 31 1 1 23 := TFt.of (k := 1) (by kernel_rfl)
instance Try.tp31 : TP Try.prog 31 [(0, 1), (1, 1)] := TP.of (by kernel_rfl)
instance Try.tl36 : TL Try.prog 36 1 true := ⟨by kernel_rfl, by kernel_rfl⟩
instance Try.tb36 : TB Try.prog 36 24 := ⟨by kernel_rfl⟩
instance Try.tz36 : TZ Try.prog 36 [.slice none 0 0] := TZ.of (by kernel_rfl)
instance Try.tf36_0 : TF Try.prog 36 0 0 := TF.of (ft := 23) (k := 0) (by kernel_rfl)
instance Try.tg36_0 : TFt Try.prog 36 0 0 23 := TFt.of (k := 1) (by kernel_rfl)
instance Try.tp36 : TP Try.prog 36 [(0, 1)] := TP.of (by kernel_rfl)
instance Try.tl37 : TL Try.prog 37 1 true := ⟨by kernel_rfl, by kernel_rfl⟩
instance Try.tb37 : TB Try.prog 37 24 := ⟨by kernel_rfl⟩
instance Try.tz37 : TZ Try.prog 37 [.slice none 0 0] := TZ.of (by kernel_rfl)
instance Try.tf37_0 : TF Try.prog 37 0 0 := TF.of (ft := 23) (k := 0) (by kernel_rfl)
instance Try.tg37_0 : TFt Try.prog 37 0 0 23 := TFt.of (k := 1) (by kernel_rfl)
instance Try.tp37 : TP Try.prog 37 [(0, 1)] := TP.of (by kernel_rfl)
instance Try.tl42 : TL Try.prog 42 1 false := ⟨by kernel_rfl, by kernel_rfl⟩
instance Try.tb42 : TB Try.prog 42 24 := ⟨by kernel_rfl⟩
instance Try.tu42 : TU Try.prog 42 (.slice 51) := ⟨by kernel_rfl⟩
instance Try.tz42 : TZ Try.prog 42 [.slice none 0 0] := TZ.of (by kernel_rfl)
instance Try.tl43 : TL Try.prog 43 3 true := ⟨by kernel_rfl, by kernel_rfl⟩
instance Try.tb43 : TB Try.prog 43 24 := ⟨by kernel_rfl⟩
instance Try.tu43 : TU Try.prog 43 (.array 3 3) := ⟨by kernel_rfl⟩
instance Try.tz43 : TZ Try.prog 43 [.int .i64 (0), .int .i64 (0), .int .i64 (0)] := TZ.of (by kernel_rfl)
instance Try.te43 : TE Try.prog 43 [.i, .i, .i] := ⟨by kernel_rfl, by kernel_rfl, by kernel_rfl⟩
instance Try.tl44 : TL Try.prog 44 3 true := ⟨by kernel_rfl, by kernel_rfl⟩
instance Try.tb44 : TB Try.prog 44 24 := ⟨by kernel_rfl⟩
instance Try.tz44 : TZ Try.prog 44 [.int .i64 (0), .int .i64 (0), .int .i64 (0)] := TZ.of (by kernel_rfl)
instance Try.te44 : TE Try.prog 44 [.i, .i, .i] := ⟨by kernel_rfl, by kernel_rfl, by kernel_rfl⟩
instance Try.tf44_0 : TF Try.prog 44 0 0 := TF.of (ft := 3) (k := 0) (by kernel_rfl)
instance Try.tg44_0 : TFt Try.prog 44 0 0 3 := TFt.of (k := 1) (by kernel_rfl)
instance Try.tf44_1 : TF Try.prog 44 1 1 := TF.of (ft := 3) (k := 0) (by kernel_rfl)
instance Try.tg44_1 : TFt Try.prog 44 1 1 3 := TFt.of (k := 1) (by kernel_rfl)
instance Try.tf44_2 : TF Try.prog 44 2 2 := TF.of (ft := 3) (k := 0) (by kernel_rfl)
instance Try.tg44_2 : TFt Try.prog 44 2 2 3 := TFt.of (k := 1) (by kernel_rfl)
instance Try.tp44 : TP Try.prog 44 [(0, 1), (1, 1), (2, 1)] := TP.of (by kernel_rfl)
instance Try.tl45 : TL Try.prog 45 3 true := ⟨by kernel_rfl, by kernel_rfl⟩
instance Try.tb45 : TB Try.prog 45 24 := ⟨by kernel_rfl⟩
instance Try.tz45 : TZ Try.prog 45 [.int .i64 (0), .int .i64 (0), .int .i64 (0)] := TZ.of (by kernel_rfl)
instance Try.te45 : TE Try.prog 45 [.i, .i, .i] := ⟨by kernel_rfl, by kernel_rfl, by kernel_rfl⟩
instance Try.tf45_0 : TF Try.prog 45 0 0 := TF.of (ft := 3) (k := 0) (by kernel_rfl)
instance Try.tg45_0 : TFt Try.prog 45 0 0 3 := TFt.of (k := 1) (by kernel_rfl)
instance Try.tf45_1 : TF Try.prog 45 1 1 := TF.of (ft := 3) (k := 0) (by kernel_rfl)
instance Try.tg45_1 : TFt Try.prog 45 1 1 3 := TFt.of (k := 1) (by kernel_rfl)
instance Try.tf45_2 : TF Try.prog 45 2 2 := TF.of (ft := 3) (k := 0) (by kernel_rfl)
instance Try.tg45_2 : TFt Try.prog 45 2 2 3 := TFt.of (k := 1) (by kernel_rfl)
instance Try.tp45 : TP Try.prog 45 [(0, 1), (1, 1), (2, 1)] := TP.of (by kernel_rfl)
instance Try.tl46 : TL Try.prog 46 3 true := ⟨by kernel_rfl, by kernel_rfl⟩
instance Try.tb46 : TB Try.prog 46 24 := ⟨by kernel_rfl⟩
instance Try.tz46 : TZ Try.prog 46 [.int .i64 (0), .int .i64 (0), .int .i64 (0)] := TZ.of (by kernel_rfl)
instance Try.te46 : TE Try.prog 46 [.i, .i, .i] := ⟨by kernel_rfl, by kernel_rfl, by kernel_rfl⟩
instance Try.tf46_0 : TF Try.prog 46 0 0 := TF.of (ft := 3) (k := 0) (by kernel_rfl)
instance Try.tg46_0 : TFt Try.prog 46 0 0 3 := TFt.of (k := 1) (by kernel_rfl)
instance Try.tf46_1 : TF Try.prog 46 1 1 := TF.of (ft := 3) (k := 0) (by kernel_rfl)
instance Try.tg46_1 : TFt Try.prog 46 1 1 3 := TFt.of (k := 1) (by kernel_rfl)
instance Try.tf46_2 : TF Try.prog 46 2 2 := TF.of (ft := 3) (k := 0) (by kernel_rfl)
instance Try.tg46_2 : TFt Try.prog 46 2 2 3 := TFt.of (k := 1) (by kernel_rfl)
instance Try.tp46 : TP Try.prog 46 [(0, 1), (1, 1), (2, 1)] := TP.of (by kernel_rfl)
instance Try.tl47 : TL Try.prog 47 3 true := ⟨by kernel_rfl, by kernel_rfl⟩
instance Try.tb47 : TB Try.prog 47 24 := ⟨by kernel_rfl⟩
instance Try.tz47 : TZ Try.prog 47 [.int .i64 (0), .int .i64 (0), .int .i64 (0)] := TZ.of (by kernel_rfl)
instance Try.te47 : TE Try.prog 47 [.i, .i, .i] := ⟨by kernel_rfl, by kernel_rfl, by kernel_rfl⟩
instance Try.tf47_0 : TF Try.prog 47 0 0 := TF.of (ft := 3) (k := 0) (by kernel_rfl)
instance Try.tg47_0 : TFt Try.prog 47 0 0 3 := TFt.of (k := 1) (by kernel_rfl)
instance Try.tf47_1 : TF Try.prog 47 1 1 := TF.of (ft := 3) (k := 0) (by kernel_rfl)
instance Try.tg47_1 : TFt Try.prog 47 1 1 3 := TFt.of (k := 1) (by kernel_rfl)
instance Try.tf47_2 : TF Try.prog 47 2 2 := TF.of (ft := 3) (k := 0) (by kernel_rfl)
instance Try.tg47_2 : TFt Try.prog 47 2 2 3 := TFt.of (k := 1) (by kernel_rfl)
instance Try.tp47 : TP Try.prog 47 [(0, 1), (1, 1), (2, 1)] := TP.of (by kernel_rfl)
instance Try.tl48 : TL Try.prog 48 9 true := ⟨by kernel_rfl, by kernel_rfl⟩
instance Try.tb48 : TB Try.prog 48 72 := ⟨by kernel_rfl⟩
instance Try.tu48 : TU Try.prog 48 (.array 3 43) := ⟨by kernel_rfl⟩
instance Try.tz48 : TZ Try.prog 48 [.int .i64 (0), .int .i64 (0), .int .i64 (0), .int .i64 (0), .int .i64 (0), .int .i64 (0), .int .i64 (0), .int .i64 (0), .int .i64 (0)] := TZ.of (by kernel_rfl)
instance Try.te48 : TE Try.prog 48 [.i, .i, .i, .i, .i, .i, .i, .i, .i] := ⟨by kernel_rfl, by kernel_rfl, by kernel_rfl⟩
instance Try.tl49 : TL Try.prog 49 9 true := ⟨by kernel_rfl, by kernel_rfl⟩
instance Try.tb49 : TB Try.prog 49 72 := ⟨by kernel_rfl⟩
instance Try.tu49 : TU Try.prog 49 (.array 3 43) := ⟨by kernel_rfl⟩
instance Try.tz49 : TZ Try.prog 49 [.int .i64 (0), .int .i64 (0), .int .i64 (0), .int .i64 (0), .int .i64 (0), .int .i64 (0), .int .i64 (0), .int .i64 (0), .int .i64 (0)] := TZ.of (by kernel_rfl)
instance Try.te49 : TE Try.prog 49 [.i, .i, .i, .i, .i, .i, .i, .i, .i] := ⟨by kernel_rfl, by kernel_rfl, by kernel_rfl⟩
instance Try.tl50 : TL Try.prog 50 20 true := ⟨by kernel_rfl, by kernel_rfl⟩
instance Try.tb50 : TB Try.prog 50 176 := ⟨by kernel_rfl⟩
instance Try.tz50 : TZ Try.prog 50 [.int .i64 (0), .int .i64 (0), .int .i64 (0), .int .i64 (0), .int .i64 (0), .int .i64 (0), .string ByteArray.empty, .string ByteArray.empty, .bool false, .int .i64 (0), .int .i64 (0), .int .i64 (0), .int .i64 (0), .int .i64 (0), .int .i64 (0), .int .i64 (0), .int .i64 (0), .int .i64 (0), .int .i64 (0), .int .i64 (0)] := TZ.of (by kernel_rfl)
instance Try.te50 : TE Try.prog 50 [.i, .i, .i, .i, .i, .i, .s, .s, .b, .i, .i, .i, .i, .i, .i, .i, .i, .i, .i, .i] := ⟨by kernel_rfl, by kernel_rfl, by kernel_rfl⟩
instance Try.tf50_0 : TF Try.prog 50 0 0 := TF.of (ft := 45) (k := 2) (by kernel_rfl)
instance Try.tg50_0 : TFt Try.prog 50 0 0 45 := TFt.of (k := 3) (by kernel_rfl)
instance Try.tf50_1 : TF Try.prog 50 1 3 := TF.of (ft := 47) (k := 2) (by kernel_rfl)
instance Try.tg50_1 : TFt Try.prog 50 1 3 47 := TFt.of (k := 3) (by kernel_rfl)
instance Try.tf50_2 : TF Try.prog 50 2 6 := TF.of (ft := 9) (k := 0) (by kernel_rfl)
instance Try.tg50_2 : TFt Try.prog 50 2 6 9 := TFt.of (k := 1) (by kernel_rfl)
instance Try.tf50_3 : TF Try.prog 50 3 7 := TF.of (ft := 9) (k := 0) (by kernel_rfl)
instance Try.tg50_3 : TFt Try.prog 50 3 7 9 := TFt.of (k := 1) (by kernel_rfl)
instance Try.tf50_4 : TF Try.prog 50 4 8 := TF.of (ft := 4) (k := 0) (by kernel_rfl)
instance Try.tg50_4 : TFt Try.prog 50 4 8 4 := TFt.of (k := 1) (by kernel_rfl)
instance Try.tf50_5 : TF Try.prog 50 5 9 := TF.of (ft := 49) (k := 8) (by kernel_rfl)
instance Try.tg50_5 : TFt Try.prog 50 5 9 49 := TFt.of (k := 9) (by kernel_rfl)
instance Try.tf50_6 : TF Try.prog 50 6 18 := TF.of (ft := 3) (k := 0) (by kernel_rfl)
instance Try.tg50_6 : TFt Try.prog 50 6 18 3 := TFt.of (k := 1) (by kernel_rfl)
instance Try.tf50_7 : TF Try.prog 50 7 19 := TF.of (ft := 3) (k := 0) (by kernel_rfl)
instance Try.tg50_7 : TFt Try.prog 50 7 19 3 := TFt.of (k := 1) (by kernel_rfl)
instance Try.tp50 : TP Try.prog 50 [(0, 3), (3, 3), (6, 1), (7, 1), (8, 1), (9, 9), (18, 1), (19, 1)] := TP.of (by kernel_rfl)
instance Try.tl51 : TL Try.prog 51 20 true := ⟨by kernel_rfl, by kernel_rfl⟩
instance Try.tb51 : TB Try.prog 51 176 := ⟨by kernel_rfl⟩
instance Try.tz51 : TZ Try.prog 51 [.int .i64 (0), .int .i64 (0), .int .i64 (0), .int .i64 (0), .int .i64 (0), .int .i64 (0), .string ByteArray.empty, .string ByteArray.empty, .bool false, .int .i64 (0), .int .i64 (0), .int .i64 (0), .int .i64 (0), .int .i64 (0), .int .i64 (0), .int .i64 (0), .int .i64 (0), .int .i64 (0), .int .i64 (0), .int .i64 (0)] := TZ.of (by kernel_rfl)
instance Try.te51 : TE Try.prog 51 [.i, .i, .i, .i, .i, .i, .s, .s, .b, .i, .i, .i, .i, .i, .i, .i, .i, .i, .i, .i] := ⟨by kernel_rfl, by kernel_rfl, by kernel_rfl⟩
instance Try.tf51_0 : TF Try.prog 51 0 0 := TF.of (ft := 45) (k := 2) (by kernel_rfl)
instance Try.tg51_0 : TFt Try.prog 51 0 0 45 := TFt.of (k := 3) (by kernel_rfl)
instance Try.tf51_1 : TF Try.prog 51 1 3 := TF.of (ft := 47) (k := 2) (by kernel_rfl)
instance Try.tg51_1 : TFt Try.prog 51 1 3 47 := TFt.of (k := 3) (by kernel_rfl)
instance Try.tf51_2 : TF Try.prog 51 2 6 := TF.of (ft := 9) (k := 0) (by kernel_rfl)
instance Try.tg51_2 : TFt Try.prog 51 2 6 9 := TFt.of (k := 1) (by kernel_rfl)
instance Try.tf51_3 : TF Try.prog 51 3 7 := TF.of (ft := 9) (k := 0) (by kernel_rfl)
instance Try.tg51_3 : TFt Try.prog 51 3 7 9 := TFt.of (k := 1) (by kernel_rfl)
instance Try.tf51_4 : TF Try.prog 51 4 8 := TF.of (ft := 4) (k := 0) (by kernel_rfl)
instance Try.tg51_4 : TFt Try.prog 51 4 8 4 := TFt.of (k := 1) (by kernel_rfl)
instance Try.tf51_5 : TF Try.prog 51 5 9 := TF.of (ft := 49) (k := 8) (by kernel_rfl)
instance Try.tg51_5 : TFt Try.prog 51 5 9 49 := TFt.of (k := 9) (by kernel_rfl)
instance Try.tf51_6 : TF Try.prog 51 6 18 := TF.of (ft := 3) (k := 0) (by kernel_rfl)
instance Try.tg51_6 : TFt Try.prog 51 6 18 3 := TFt.of (k := 1) (by kernel_rfl)
instance Try.tf51_7 : TF Try.prog 51 7 19 := TF.of (ft := 3) (k := 0) (by kernel_rfl)
instance Try.tg51_7 : TFt Try.prog 51 7 19 3 := TFt.of (k := 1) (by kernel_rfl)
instance Try.tp51 : TP Try.prog 51 [(0, 3), (3, 3), (6, 1), (7, 1), (8, 1), (9, 9), (18, 1), (19, 1)] := TP.of (by kernel_rfl)
instance Try.tl52 : TL Try.prog 52 1 false := ⟨by kernel_rfl, by kernel_rfl⟩
instance Try.tb52 : TB Try.prog 52 8 := ⟨by kernel_rfl⟩
instance Try.tu52 : TU Try.prog 52 (.pointer 96) := ⟨by kernel_rfl⟩
instance Try.tz52 : TZ Try.prog 52 [.pointer none] := TZ.of (by kernel_rfl)
instance Try.tl58 : TL Try.prog 58 1 false := ⟨by kernel_rfl, by kernel_rfl⟩
instance Try.tb58 : TB Try.prog 58 24 := ⟨by kernel_rfl⟩
instance Try.tu58 : TU Try.prog 58 (.slice 68) := ⟨by kernel_rfl⟩
instance Try.tz58 : TZ Try.prog 58 [.slice none 0 0] := TZ.of (by kernel_rfl)
instance Try.tl60 : TL Try.prog 60 1 false := ⟨by kernel_rfl, by kernel_rfl⟩
instance Try.tb60 : TB Try.prog 60 8 := ⟨by kernel_rfl⟩
instance Try.tu60 : TU Try.prog 60 (.pointer 99) := ⟨by kernel_rfl⟩
instance Try.tz60 : TZ Try.prog 60 [.pointer none] := TZ.of (by kernel_rfl)
instance Try.tl62 : TL Try.prog 62 1 false := ⟨by kernel_rfl, by kernel_rfl⟩
instance Try.tb62 : TB Try.prog 62 8 := ⟨by kernel_rfl⟩
instance Try.tu62 : TU Try.prog 62 (.int .i64) := ⟨by kernel_rfl⟩
instance Try.tz62 : TZ Try.prog 62 [.int .i64 (0)] := TZ.of (by kernel_rfl)
instance Try.tl64 : TL Try.prog 64 4 true := ⟨by kernel_rfl, by kernel_rfl⟩
instance Try.tb64 : TB Try.prog 64 32 := ⟨by kernel_rfl⟩
instance Try.tz64 : TZ Try.prog 64 [.int .i64 (0), .int .i64 (0), .int .i64 (0), .int .i64 (0)] := TZ.of (by kernel_rfl)
instance Try.te64 : TE Try.prog 64 [.i, .i, .i, .i] := ⟨by kernel_rfl, by kernel_rfl, by kernel_rfl⟩
instance Try.tf64_0 : TF Try.prog 64 0 0 := TF.of (ft := 3) (k := 0) (by kernel_rfl)
instance Try.tg64_0 : TFt Try.prog 64 0 0 3 := TFt.of (k := 1) (by kernel_rfl)
instance Try.tf64_1 : TF Try.prog 64 1 1 := TF.of (ft := 3) (k := 0) (by kernel_rfl)
instance Try.tg64_1 : TFt Try.prog 64 1 1 3 := TFt.of (k := 1) (by kernel_rfl)
instance Try.tf64_2 : TF Try.prog 64 2 2 := TF.of (ft := 3) (k := 0) (by kernel_rfl)
instance Try.tg64_2 : TFt Try.prog 64 2 2 3 := TFt.of (k := 1) (by kernel_rfl)
instance Try.tf64_3 : TF Try.prog 64 3 3 := TF.of (ft := 3) (k := 0) (by kernel_rfl)
instance Try.tg64_3 : TFt Try.prog 64 3 3 3 := TFt.of (k := 1) (by kernel_rfl)
instance Try.tp64 : TP Try.prog 64 [(0, 1), (1, 1), (2, 1), (3, 1)] := TP.of (by kernel_rfl)
instance Try.tl65 : TL Try.prog 65 4 true := ⟨by kernel_rfl, by kernel_rfl⟩
instance Try.tb65 : TB Try.prog 65 32 := ⟨by kernel_rfl⟩
instance Try.tz65 : TZ Try.prog 65 [.int .i64 (0), .int .i64 (0), .int .i64 (0), .int .i64 (0)] := TZ.of (by kernel_rfl)
instance Try.te65 : TE Try.prog 65 [.i, .i, .i, .i] := ⟨by kernel_rfl, by kernel_rfl, by kernel_rfl⟩
instance Try.tf65_0 : TF Try.prog 65 0 0 := TF.of (ft := 3) (k := 0) (by kernel_rfl)
instance Try.tg65_0 : TFt Try.prog 65 0 0 3 := TFt.of (k := 1) (by kernel_rfl)
instance Try.tf65_1 : TF Try.prog 65 1 1 := TF.of (ft := 3) (k := 0) (by kernel_rfl)
instance Try.tg65_1 : TFt Try.prog 65 1 1 3 := TFt.of (k := 1) (by kernel_rfl)
instance Try.tf65_2 : TF Try.prog 65 2 2 := TF.of (ft := 3) (k := 0) (by kernel_rfl)
instance Try.tg65_2 : TFt Try.prog 65 2 2 3 := TFt.of (k := 1) (by kernel_rfl)
instance Try.tf65_3 : TF Try.prog 65 3 3 := TF.of (ft := 3) (k := 0) (by kernel_rfl)
instance Try.tg65_3 : TFt Try.prog 65 3 3 3 := TFt.of (k := 1) (by kernel_rfl)
instance Try.tp65 : TP Try.prog 65 [(0, 1), (1, 1), (2, 1), (3, 1)] := TP.of (by kernel_rfl)
instance Try.tl66 : TL Try.prog 66 1 false := ⟨by kernel_rfl, by kernel_rfl⟩
instance Try.tb66 : TB Try.prog 66 24 := ⟨by kernel_rfl⟩
instance Try.tu66 : TU Try.prog 66 (.slice 5) := ⟨by kernel_rfl⟩
instance Try.tz66 : TZ Try.prog 66 [.slice none 0 0] := TZ.of (by kernel_rfl)
instance Try.tl67 : TL Try.prog 67 12 true := ⟨by kernel_rfl, by kernel_rfl⟩
instance Try.tb67 : TB Try.prog 67 112 := ⟨by kernel_rfl⟩
instance Try.tz67 : TZ Try.prog 67 [.int .i64 (0), .int .i64 (0), .int .i64 (0), .int .i64 (0), .int .i64 (0), .int .i64 (0), .int .i64 (0), .int .i64 (0), .int .i64 (0), .int .i64 (0), .int .i64 (0), .slice none 0 0] := TZ.of (by kernel_rfl)
instance Try.tf67_0 : TF Try.prog 67 0 0 := TF.of (ft := 3) (k := 0) (by kernel_rfl)
instance Try.tg67_0 : TFt Try.prog 67 0 0 3 := TFt.of (k := 1) (by kernel_rfl)
instance Try.tf67_1 : TF Try.prog 67 1 1 := TF.of (ft := 3) (k := 0) (by kernel_rfl)
instance Try.tg67_1 : TFt Try.prog 67 1 1 3 := TFt.of (k := 1) (by kernel_rfl)
instance Try.tf67_2 : TF Try.prog 67 2 2 := TF.of (ft := 3) (k := 0) (by kernel_rfl)
instance Try.tg67_2 : TFt Try.prog 67 2 2 3 := TFt.of (k := 1) (by kernel_rfl)
instance Try.tf67_3 : TF Try.prog 67 3 3 := TF.of (ft := 65) (k := 3) (by kernel_rfl)
instance Try.tg67_3 : TFt Try.prog 67 3 3 65 := TFt.of (k := 4) (by kernel_rfl)
instance Try.tf67_4 : TF Try.prog 67 4 7 := TF.of (ft := 65) (k := 3) (by kernel_rfl)
instance Try.tg67_4 : TFt Try.prog 67 4 7 65 := TFt.of (k := 4) (by kernel_rfl)
instance Try.tf67_5 : TF Try.prog 67 5 11 := TF.of (ft := 66) (k := 0) (by kernel_rfl)
instance Try.tg67_5 : TFt Try.prog 67 5 11 66 := TFt.of (k := 1) (by kernel_rfl)
instance Try.tp67 : TP Try.prog 67 [(0, 1), (1, 1), (2, 1), (3, 4), (7, 4), (11, 1)] := TP.of (by kernel_rfl)
instance Try.tl68 : TL Try.prog 68 12 true := ⟨by kernel_rfl, by kernel_rfl⟩
instance Try.tb68 : TB Try.prog 68 112 := ⟨by kernel_rfl⟩
instance Try.tz68 : TZ Try.prog 68 [.int .i64 (0), .int .i64 (0), .int .i64 (0), .int .i64 (0), .int .i64 (0), .int .i64 (0), .int .i64 (0), .int .i64 (0), .int .i64 (0), .int .i64 (0), .int .i64 (0), .slice none 0 0] := TZ.of (by kernel_rfl)
instance Try.tf68_0 : TF Try.prog 68 0 0 := TF.of (ft := 3) (k := 0) (by kernel_rfl)
instance Try.tg68_0 : TFt Try.prog 68 0 0 3 := TFt.of (k := 1) (by kernel_rfl)
instance Try.tf68_1 : TF Try.prog 68 1 1 := TF.of (ft := 3) (k := 0) (by kernel_rfl)
instance Try.tg68_1 : TFt Try.prog 68 1 1 3 := TFt.of (k := 1) (by kernel_rfl)
instance Try.tf68_2 : TF Try.prog 68 2 2 := TF.of (ft := 3) (k := 0) (by kernel_rfl)
instance Try.tg68_2 : TFt Try.prog 68 2 2 3 := TFt.of (k := 1) (by kernel_rfl)
instance Try.tf68_3 : TF Try.prog 68 3 3 := TF.of (ft := 65) (k := 3) (by kernel_rfl)
instance Try.tg68_3 : TFt Try.prog 68 3 3 65 := TFt.of (k := 4) (by kernel_rfl)
instance Try.tf68_4 : TF Try.prog 68 4 7 := TF.of (ft := 65) (k := 3) (by kernel_rfl)
instance Try.tg68_4 : TFt Try.prog 68 4 7 65 := TFt.of (k := 4) (by kernel_rfl)
instance Try.tf68_5 : TF Try.prog 68 5 11 := TF.of (ft := 66) (k := 0) (by kernel_rfl)
instance Try.tg68_5 : TFt Try.prog 68 5 11 66 := TFt.of (k := 1) (by kernel_rfl)
instance Try.tp68 : TP Try.prog 68 [(0, 1), (1, 1), (2, 1), (3, 4), (7, 4), (11, 1)] := TP.of (by kernel_rfl)
instance Try.tl76 : TL Try.prog 76 1 false := ⟨by kernel_rfl, by kernel_rfl⟩
instance Try.tb76 : TB Try.prog 76 8 := ⟨by kernel_rfl⟩
instance Try.tu76 : TU Try.prog 76 (.pointer 81) := ⟨by kernel_rfl⟩
instance Try.tz76 : TZ Try.prog 76 [.pointer none] := TZ.of (by kernel_rfl)
instance Try.tl77 : TL Try.prog 77 1 false := ⟨by kernel_rfl, by kernel_rfl⟩
instance Try.tb77 : TB Try.prog 77 24 := ⟨by kernel_rfl⟩
instance Try.tu77 : TU Try.prog 77 (.slice 84) := ⟨by kernel_rfl⟩
instance Try.tz77 : TZ Try.prog 77 [.slice none 0 0] := TZ.of (by kernel_rfl)
instance Try.tl78 : TL Try.prog 78 3 true := ⟨by kernel_rfl, by kernel_rfl⟩
instance Try.tb78 : TB Try.prog 78 3 := ⟨by kernel_rfl⟩
instance Try.tu78 : TU Try.prog 78 (.array 3 4) := ⟨by kernel_rfl⟩
instance Try.tz78 : TZ Try.prog 78 [.bool false, .bool false, .bool false] := TZ.of (by kernel_rfl)
instance Try.te78 : TE Try.prog 78 [.b, .b, .b] := ⟨by kernel_rfl, by kernel_rfl, by kernel_rfl⟩
instance Try.tl79 : TL Try.prog 79 9 true := ⟨by kernel_rfl, by kernel_rfl⟩
instance Try.tb79 : TB Try.prog 79 9 := ⟨by kernel_rfl⟩
instance Try.tu79 : TU Try.prog 79 (.array 3 78) := ⟨by kernel_rfl⟩
instance Try.tz79 : TZ Try.prog 79 [.bool false, .bool false, .bool false, .bool false, .bool false, .bool false, .bool false, .bool false, .bool false] := TZ.of (by kernel_rfl)
instance Try.te79 : TE Try.prog 79 [.b, .b, .b, .b, .b, .b, .b, .b, .b] := ⟨by kernel_rfl, by kernel_rfl, by kernel_rfl⟩
instance Try.tl80 : TL Try.prog 80 10 true := ⟨by kernel_rfl, by kernel_rfl⟩
instance Try.tb80 : TB Try.prog 80 40 := ⟨by kernel_rfl⟩
instance Try.tz80 : TZ Try.prog 80 [.slice none 0 0, .bool false, .bool false, .bool false, .bool false, .bool false, .bool false, .bool false, .bool false, .bool false] := TZ.of (by kernel_rfl)
instance Try.tf80_0 : TF Try.prog 80 0 0 := TF.of (ft := 77) (k := 0) (by kernel_rfl)
instance Try.tg80_0 : TFt Try.prog 80 0 0 77 := TFt.of (k := 1) (by kernel_rfl)
instance Try.tf80_1 : TF Try.prog 80 1 1 := TF.of (ft := 79) (k := 8) (by kernel_rfl)
instance Try.tg80_1 : TFt Try.prog 80 1 1 79 := TFt.of (k := 9) (by kernel_rfl)
instance Try.tp80 : TP Try.prog 80 [(0, 1), (1, 9)] := TP.of (by kernel_rfl)
instance Try.tl81 : TL Try.prog 81 10 true := ⟨by kernel_rfl, by kernel_rfl⟩
instance Try.tb81 : TB Try.prog 81 40 := ⟨by kernel_rfl⟩
instance Try.tz81 : TZ Try.prog 81 [.slice none 0 0, .bool false, .bool false, .bool false, .bool false, .bool false, .bool false, .bool false, .bool false, .bool false] := TZ.of (by kernel_rfl)
instance Try.tf81_0 : TF Try.prog 81 0 0 := TF.of (ft := 77) (k := 0) (by kernel_rfl)
instance Try.tg81_0 : TFt Try.prog 81 0 0 77 := TFt.of (k := 1) (by kernel_rfl)
instance Try.tf81_1 : TF Try.prog 81 1 1 := TF.of (ft := 79) (k := 8) (by kernel_rfl)
instance Try.tg81_1 : TFt Try.prog 81 1 1 79 := TFt.of (k := 9) (by kernel_rfl)
instance Try.tp81 : TP Try.prog 81 [(0, 1), (1, 9)] := TP.of (by kernel_rfl)
instance Try.tl83 : TL Try.prog 83 10 true := ⟨by kernel_rfl, by kernel_rfl⟩
instance Try.tb83 : TB Try.prog 83 88 := ⟨by kernel_rfl⟩
instance Try.tz83 : TZ Try.prog 83 [.int .i64 (0), .int .i64 (0), .int .i64 (0), .int .i64 (0), .int .i64 (0), .int .i64 (0), .int .i64 (0), .int .i64 (0), .string ByteArray.empty, .bool false] := TZ.of (by kernel_rfl)
instance Try.te83 : TE Try.prog 83 [.i, .i, .i, .i, .i, .i, .i, .i, .s, .b] := ⟨by kernel_rfl, by kernel_rfl, by kernel_rfl⟩
instance Try.tf83_0 : TF Try.prog 83 0 0 := TF.of (ft := 65) (k := 3) (by kernel_rfl)
instance Try.tg83_0 : TFt Try.prog 83 0 0 65 := TFt.of (k := 4) (by kernel_rfl)
instance Try.tf83_1 : TF Try.prog 83 1 4 := TF.of (ft := 65) (k := 3) (by kernel_rfl)
instance Try.tg83_1 : TFt Try.prog 83 1 4 65 := TFt.of (k := 4) (by kernel_rfl)
instance Try.tf83_2 : TF Try.prog 83 2 8 := TF.of (ft := 9) (k := 0) (by kernel_rfl)
instance Try.tg83_2 : TFt Try.prog 83 2 8 9 := TFt.of (k := 1) (by kernel_rfl)
instance Try.tf83_3 : TF Try.prog 83 3 9 := TF.of (ft := 4) (k := 0) (by kernel_rfl)
instance Try.tg83_3 : TFt Try.prog 83 3 9 4 := TFt.of (k := 1) (by kernel_rfl)
instance Try.tp83 : TP Try.prog 83 [(0, 4), (4, 4), (8, 1), (9, 1)] := TP.of (by kernel_rfl)
instance Try.tl84 : TL Try.prog 84 10 true := ⟨by kernel_rfl, by kernel_rfl⟩
instance Try.tb84 : TB Try.prog 84 88 := ⟨by kernel_rfl⟩
instance Try.tz84 : TZ Try.prog 84 [.int .i64 (0), .int .i64 (0), .int .i64 (0), .int .i64 (0), .int .i64 (0), .int .i64 (0), .int .i64 (0), .int .i64 (0), .string ByteArray.empty, .bool false] := TZ.of (by kernel_rfl)
instance Try.te84 : TE Try.prog 84 [.i, .i, .i, .i, .i, .i, .i, .i, .s, .b] := ⟨by kernel_rfl, by kernel_rfl, by kernel_rfl⟩
instance Try.tf84_0 : TF Try.prog 84 0 0 := TF.of (ft := 65) (k := 3) (by kernel_rfl)
instance Try.tg84_0 : TFt Try.prog 84 0 0 65 := TFt.of (k := 4) (by kernel_rfl)
instance Try.tf84_1 : TF Try.prog 84 1 4 := TF.of (ft := 65) (k := 3) (by kernel_rfl)
instance Try.tg84_1 : TFt Try.prog 84 1 4 65 := TFt.of (k := 4) (by kernel_rfl)
instance Try.tf84_2 : TF Try.prog 84 2 8 := TF.of (ft := 9) (k := 0) (by kernel_rfl)
instance Try.tg84_2 : TFt Try.prog 84 2 8 9 := TFt.of (k := 1) (by kernel_rfl)
instance Try.tf84_3 : TF Try.prog 84 3 9 := TF.of (ft := 4) (k := 0) (by kernel_rfl)
instance Try.tg84_3 : TFt Try.prog 84 3 9 4 := TFt.of (k := 1) (by kernel_rfl)
instance Try.tp84 : TP Try.prog 84 [(0, 4), (4, 4), (8, 1), (9, 1)] := TP.of (by kernel_rfl)
instance Try.tl91 : TL Try.prog 91 1 true := ⟨by kernel_rfl, by kernel_rfl⟩
instance Try.tb91 : TB Try.prog 91 24 := ⟨by kernel_rfl⟩
instance Try.tz91 : TZ Try.prog 91 [.slice none 0 0] := TZ.of (by kernel_rfl)
instance Try.tf91_0 : TF Try.prog 91 0 0 := TF.of (ft := 23) (k := 0) (by kernel_rfl)
instance Try.tg91_0 : TFt Try.prog 91 0 0 23 := TFt.of (k := 1) (by kernel_rfl)
instance Try.tp91 : TP Try.prog 91 [(0, 1)] := TP.of (by kernel_rfl)
instance Try.tl92 : TL Try.prog 92 1 true := ⟨by kernel_rfl, by kernel_rfl⟩
instance Try.tb92 : TB Try.prog 92 24 := ⟨by kernel_rfl⟩
instance Try.tz92 : TZ Try.prog 92 [.slice none 0 0] := TZ.of (by kernel_rfl)
instance Try.tf92_0 : TF Try.prog 92 0 0 := TF.of (ft := 23) (k := 0) (by kernel_rfl)
instance Try.tg92_0 : TFt Try.prog 92 0 0 23 := TFt.of (k := 1) (by kernel_rfl)
instance Try.tp92 : TP Try.prog 92 [(0, 1)] := TP.of (by kernel_rfl)
instance Try.tl94 : TL Try.prog 94 3 true := ⟨by kernel_rfl, by kernel_rfl⟩
instance Try.tb94 : TB Try.prog 94 24 := ⟨by kernel_rfl⟩
instance Try.tu94 : TU Try.prog 94 (.array 3 3) := ⟨by kernel_rfl⟩
instance Try.tz94 : TZ Try.prog 94 [.int .i64 (0), .int .i64 (0), .int .i64 (0)] := TZ.of (by kernel_rfl)
instance Try.te94 : TE Try.prog 94 [.i, .i, .i] := ⟨by kernel_rfl, by kernel_rfl, by kernel_rfl⟩
instance Try.tl95 : TL Try.prog 95 4 true := ⟨by kernel_rfl, by kernel_rfl⟩
instance Try.tb95 : TB Try.prog 95 32 := ⟨by kernel_rfl⟩
instance Try.tz95 : TZ Try.prog 95 [.int .i64 (0), .int .i64 (0), .int .i64 (0), .int .i64 (0)] := TZ.of (by kernel_rfl)
instance Try.te95 : TE Try.prog 95 [.i, .i, .i, .i] := ⟨by kernel_rfl, by kernel_rfl, by kernel_rfl⟩
instance Try.tf95_0 : TF Try.prog 95 0 0 := TF.of (ft := 3) (k := 0) (by kernel_rfl)
instance Try.tg95_0 : TFt Try.prog 95 0 0 3 := TFt.of (k := 1) (by kernel_rfl)
instance Try.tf95_1 : TF Try.prog 95 1 1 := TF.of (ft := 94) (k := 2) (by kernel_rfl)
instance Try.tg95_1 : TFt Try.prog 95 1 1 94 := TFt.of (k := 3) (by kernel_rfl)
instance Try.tp95 : TP Try.prog 95 [(0, 1), (1, 3)] := TP.of (by kernel_rfl)
instance Try.tl96 : TL Try.prog 96 4 true := ⟨by kernel_rfl, by kernel_rfl⟩
instance Try.tb96 : TB Try.prog 96 32 := ⟨by kernel_rfl⟩
instance Try.tz96 : TZ Try.prog 96 [.int .i64 (0), .int .i64 (0), .int .i64 (0), .int .i64 (0)] := TZ.of (by kernel_rfl)
instance Try.te96 : TE Try.prog 96 [.i, .i, .i, .i] := ⟨by kernel_rfl, by kernel_rfl, by kernel_rfl⟩
instance Try.tf96_0 : TF Try.prog 96 0 0 := TF.of (ft := 3) (k := 0) (by kernel_rfl)
instance Try.tg96_0 : TFt Try.prog 96 0 0 3 := TFt.of (k := 1) (by kernel_rfl)
instance Try.tf96_1 : TF Try.prog 96 1 1 := TF.of (ft := 94) (k := 2) (by kernel_rfl)
instance Try.tg96_1 : TFt Try.prog 96 1 1 94 := TFt.of (k := 3) (by kernel_rfl)
instance Try.tp96 : TP Try.prog 96 [(0, 1), (1, 3)] := TP.of (by kernel_rfl)
instance Try.tl97 : TL Try.prog 97 1 false := ⟨by kernel_rfl, by kernel_rfl⟩
instance Try.tb97 : TB Try.prog 97 24 := ⟨by kernel_rfl⟩
instance Try.tu97 : TU Try.prog 97 (.slice 102) := ⟨by kernel_rfl⟩
instance Try.tz97 : TZ Try.prog 97 [.slice none 0 0] := TZ.of (by kernel_rfl)
instance Try.tl98 : TL Try.prog 98 10 true := ⟨by kernel_rfl, by kernel_rfl⟩
instance Try.tb98 : TB Try.prog 98 40 := ⟨by kernel_rfl⟩
instance Try.tz98 : TZ Try.prog 98 [.slice none 0 0, .bool false, .bool false, .bool false, .bool false, .bool false, .bool false, .bool false, .bool false, .bool false] := TZ.of (by kernel_rfl)
instance Try.tf98_0 : TF Try.prog 98 0 0 := TF.of (ft := 97) (k := 0) (by kernel_rfl)
instance Try.tg98_0 : TFt Try.prog 98 0 0 97 := TFt.of (k := 1) (by kernel_rfl)
instance Try.tf98_1 : TF Try.prog 98 1 1 := TF.of (ft := 79) (k := 8) (by kernel_rfl)
instance Try.tg98_1 : TFt Try.prog 98 1 1 79 := TFt.of (k := 9) (by kernel_rfl)
instance Try.tp98 : TP Try.prog 98 [(0, 1), (1, 9)] := TP.of (by kernel_rfl)
instance Try.tl99 : TL Try.prog 99 10 true := ⟨by kernel_rfl, by kernel_rfl⟩
instance Try.tb99 : TB Try.prog 99 40 := ⟨by kernel_rfl⟩
instance Try.tz99 : TZ Try.prog 99 [.slice none 0 0, .bool false, .bool false, .bool false, .bool false, .bool false, .bool false, .bool false, .bool false, .bool false] := TZ.of (by kernel_rfl)
instance Try.tf99_0 : TF Try.prog 99 0 0 := TF.of (ft := 97) (k := 0) (by kernel_rfl)
instance Try.tg99_0 : TFt Try.prog 99 0 0 97 := TFt.of (k := 1) (by kernel_rfl)
instance Try.tf99_1 : TF Try.prog 99 1 1 := TF.of (ft := 79) (k := 8) (by kernel_rfl)
instance Try.tg99_1 : TFt Try.prog 99 1 1 79 := TFt.of (k := 9) (by kernel_rfl)
instance Try.tp99 : TP Try.prog 99 [(0, 1), (1, 9)] := TP.of (by kernel_rfl)
instance Try.tl101 : TL Try.prog 101 10 true := ⟨by kernel_rfl, by kernel_rfl⟩
instance Try.tb101 : TB Try.prog 101 96 := ⟨by kernel_rfl⟩
instance Try.tz101 : TZ Try.prog 101 [.int .i64 (0), .int .i64 (0), .int .i64 (0), .int .i64 (0), .int .i64 (0), .int .i64 (0), .int .i64 (0), .int .i64 (0), .slice none 0 0, .bool false] := TZ.of (by kernel_rfl)
instance Try.tf101_0 : TF Try.prog 101 0 0 := TF.of (ft := 65) (k := 3) (by kernel_rfl)
instance Try.tg101_0 : TFt Try.prog 101 0 0 65 := TFt.of (k := 4) (by kernel_rfl)
instance Try.tf101_1 : TF Try.prog 101 1 4 := TF.of (ft := 65) (k := 3) (by kernel_rfl)
instance Try.tg101_1 : TFt Try.prog 101 1 4 65 := TFt.of (k := 4) (by kernel_rfl)
instance Try.tf101_2 : TF Try.prog 101 2 8 := TF.of (ft := 66) (k := 0) (by kernel_rfl)
instance Try.tg101_2 : TFt Try.prog 101 2 8 66 := TFt.of (k := 1) (by kernel_rfl)
instance Try.tf101_3 : TF Try.prog 101 3 9 := TF.of (ft := 4) (k := 0) (by kernel_rfl)
instance Try.tg101_3 : TFt Try.prog 101 3 9 4 := TFt.of (k := 1) (by kernel_rfl)
instance Try.tp101 : TP Try.prog 101 [(0, 4), (4, 4), (8, 1), (9, 1)] := TP.of (by kernel_rfl)
instance Try.tl102 : TL Try.prog 102 10 true := ⟨by kernel_rfl, by kernel_rfl⟩
instance Try.tb102 : TB Try.prog 102 96 := ⟨by kernel_rfl⟩
instance Try.tz102 : TZ Try.prog 102 [.int .i64 (0), .int .i64 (0), .int .i64 (0), .int .i64 (0), .int .i64 (0), .int .i64 (0), .int .i64 (0), .int .i64 (0), .slice none 0 0, .bool false] := TZ.of (by kernel_rfl)
instance Try.tf102_0 : TF Try.prog 102 0 0 := TF.of (ft := 65) (k := 3) (by kernel_rfl)
instance Try.tg102_0 : TFt Try.prog 102 0 0 65 := TFt.of (k := 4) (by kernel_rfl)
instance Try.tf102_1 : TF Try.prog 102 1 4 := TF.of (ft := 65) (k := 3) (by kernel_rfl)
instance Try.tg102_1 : TFt Try.prog 102 1 4 65 := TFt.of (k := 4) (by kernel_rfl)
instance Try.tf102_2 : TF Try.prog 102 2 8 := TF.of (ft := 66) (k := 0) (by kernel_rfl)
instance Try.tg102_2 : TFt Try.prog 102 2 8 66 := TFt.of (k := 1) (by kernel_rfl)
instance Try.tf102_3 : TF Try.prog 102 3 9 := TF.of (ft := 4) (k := 0) (by kernel_rfl)
instance Try.tg102_3 : TFt Try.prog 102 3 9 4 := TFt.of (k := 1) (by kernel_rfl)
instance Try.tp102 : TP Try.prog 102 [(0, 4), (4, 4), (8, 1), (9, 1)] := TP.of (by kernel_rfl)
instance Try.tl108 : TL Try.prog 108 1 false := ⟨by kernel_rfl, by kernel_rfl⟩
instance Try.tb108 : TB Try.prog 108 8 := ⟨by kernel_rfl⟩
instance Try.tu108 : TU Try.prog 108 (.int .u64) := ⟨by kernel_rfl⟩
instance Try.tz108 : TZ Try.prog 108 [.int .u64 (0)] := TZ.of (by kernel_rfl)
instance Try.tl110 : TL Try.prog 110 1 false := ⟨by kernel_rfl, by kernel_rfl⟩
instance Try.tb110 : TB Try.prog 110 8 := ⟨by kernel_rfl⟩
instance Try.tu110 : TU Try.prog 110 (.pointer 102) := ⟨by kernel_rfl⟩
instance Try.tz110 : TZ Try.prog 110 [.pointer none] := TZ.of (by kernel_rfl)
instance Try.tl112 : TL Try.prog 112 4 true := ⟨by kernel_rfl, by kernel_rfl⟩
instance Try.tb112 : TB Try.prog 112 40 := ⟨by kernel_rfl⟩
instance Try.tz112 : TZ Try.prog 112 [.pointer none, .pointer none, .pointer none, .string ByteArray.empty] := TZ.of (by kernel_rfl)
instance Try.tf112_0 : TF Try.prog 112 0 0 := TF.of (ft := 17) (k := 0) (by kernel_rfl)
instance Try.tg112_0 : TFt Try.prog 112 0 0 17 := TFt.of (k := 1) (by kernel_rfl)
instance Try.tf112_1 : TF Try.prog 112 1 1 := TF.of (ft := 17) (k := 0) (by kernel_rfl)
instance Try.tg112_1 : TFt Try.prog 112 1 1 17 := TFt.of (k := 1) (by kernel_rfl)
instance Try.tf112_2 : TF Try.prog 112 2 2 := TF.of (ft := 17) (k := 0) (by kernel_rfl)
instance Try.tg112_2 : TFt Try.prog 112 2 2 17 := TFt.of (k := 1) (by kernel_rfl)
instance Try.tf112_3 : TF Try.prog 112 3 3 := TF.of (ft := 9) (k := 0) (by kernel_rfl)
instance Try.tg112_3 : TFt Try.prog 112 3 3 9 := TFt.of (k := 1) (by kernel_rfl)
instance Try.tp112 : TP Try.prog 112 [(0, 1), (1, 1), (2, 1), (3, 1)] := TP.of (by kernel_rfl)
instance Try.tl113 : TL Try.prog 113 4 true := ⟨by kernel_rfl, by kernel_rfl⟩
instance Try.tb113 : TB Try.prog 113 40 := ⟨by kernel_rfl⟩
instance Try.tz113 : TZ Try.prog 113 [.pointer none, .pointer none, .pointer none, .string ByteArray.empty] := TZ.of (by kernel_rfl)
instance Try.tf113_0 : TF Try.prog 113 0 0 := TF.of (ft := 17) (k := 0) (by kernel_rfl)
instance Try.tg113_0 : TFt Try.prog 113 0 0 17 := TFt.of (k := 1) (by kernel_rfl)
instance Try.tf113_1 : TF Try.prog 113 1 1 := TF.of (ft := 17) (k := 0) (by kernel_rfl)
instance Try.tg113_1 : TFt Try.prog 113 1 1 17 := TFt.of (k := 1) (by kernel_rfl)
instance Try.tf113_2 : TF Try.prog 113 2 2 := TF.of (ft := 17) (k := 0) (by kernel_rfl)
instance Try.tg113_2 : TFt Try.prog 113 2 2 17 := TFt.of (k := 1) (by kernel_rfl)
instance Try.tf113_3 : TF Try.prog 113 3 3 := TF.of (ft := 9) (k := 0) (by kernel_rfl)
instance Try.tg113_3 : TFt Try.prog 113 3 3 9 := TFt.of (k := 1) (by kernel_rfl)
instance Try.tp113 : TP Try.prog 113 [(0, 1), (1, 1), (2, 1), (3, 1)] := TP.of (by kernel_rfl)
instance Try.tl114 : TL Try.prog 114 0 true := ⟨by kernel_rfl, by kernel_rfl⟩
instance Try.tb114 : TB Try.prog 114 0 := ⟨by kernel_rfl⟩
instance Try.tu114 : TU Try.prog 114 (.array 0 16) := ⟨by kernel_rfl⟩
instance Try.tz114 : TZ Try.prog 114 [] := TZ.of (by kernel_rfl)
instance Try.tl115 : TL Try.prog 115 0 true := ⟨by kernel_rfl, by kernel_rfl⟩
instance Try.tb115 : TB Try.prog 115 0 := ⟨by kernel_rfl⟩
instance Try.tz115 : TZ Try.prog 115 [] := TZ.of (by kernel_rfl)
instance Try.tp115 : TP Try.prog 115 [(0, 0)] := TP.of (by kernel_rfl)
instance Try.tl116 : TL Try.prog 116 0 true := ⟨by kernel_rfl, by kernel_rfl⟩
instance Try.tb116 : TB Try.prog 116 0 := ⟨by kernel_rfl⟩
instance Try.tz116 : TZ Try.prog 116 [] := TZ.of (by kernel_rfl)
instance Try.tp116 : TP Try.prog 116 [(0, 0)] := TP.of (by kernel_rfl)
instance Try.tl117 : TL Try.prog 117 1 false := ⟨by kernel_rfl, by kernel_rfl⟩
instance Try.tb117 : TB Try.prog 117 4 := ⟨by kernel_rfl⟩
instance Try.tu117 : TU Try.prog 117 (.int .u32) := ⟨by kernel_rfl⟩
instance Try.tz117 : TZ Try.prog 117 [.int .u32 (0)] := TZ.of (by kernel_rfl)
instance Try.tl118 : TL Try.prog 118 1 false := ⟨by kernel_rfl, by kernel_rfl⟩
instance Try.tb118 : TB Try.prog 118 1 := ⟨by kernel_rfl⟩
instance Try.tu118 : TU Try.prog 118 (.int .u8) := ⟨by kernel_rfl⟩
instance Try.tz118 : TZ Try.prog 118 [.int .u8 (0)] := TZ.of (by kernel_rfl)
instance Try.tl119 : TL Try.prog 119 1 false := ⟨by kernel_rfl, by kernel_rfl⟩
instance Try.tb119 : TB Try.prog 119 1 := ⟨by kernel_rfl⟩
instance Try.tu119 : TU Try.prog 119 (.int .u8) := ⟨by kernel_rfl⟩
instance Try.tz119 : TZ Try.prog 119 [.int .u8 (0)] := TZ.of (by kernel_rfl)
instance Try.tl121 : TL Try.prog 121 1 false := ⟨by kernel_rfl, by kernel_rfl⟩
instance Try.tb121 : TB Try.prog 121 8 := ⟨by kernel_rfl⟩
instance Try.tu121 : TU Try.prog 121 (.pointer 5) := ⟨by kernel_rfl⟩
instance Try.tz121 : TZ Try.prog 121 [.pointer none] := TZ.of (by kernel_rfl)
instance Try.tl122 : TL Try.prog 122 1 false := ⟨by kernel_rfl, by kernel_rfl⟩
instance Try.tb122 : TB Try.prog 122 4 := ⟨by kernel_rfl⟩
instance Try.tu122 : TU Try.prog 122 (.int .i32) := ⟨by kernel_rfl⟩
instance Try.tz122 : TZ Try.prog 122 [.int .i32 (0)] := TZ.of (by kernel_rfl)
instance Try.tl123 : TL Try.prog 123 1 false := ⟨by kernel_rfl, by kernel_rfl⟩
instance Try.tb123 : TB Try.prog 123 4 := ⟨by kernel_rfl⟩
instance Try.tu123 : TU Try.prog 123 (.int .i32) := ⟨by kernel_rfl⟩
instance Try.tz123 : TZ Try.prog 123 [.int .i32 (0)] := TZ.of (by kernel_rfl)
instance Try.tl124 : TL Try.prog 124 11 true := ⟨by kernel_rfl, by kernel_rfl⟩
instance Try.tb124 : TB Try.prog 124 48 := ⟨by kernel_rfl⟩
instance Try.tz124 : TZ Try.prog 124 [.int .u64 (0), .int .u64 (0), .int .u32 (0), .int .u8 (0), .int .u8 (0), .int .u8 (0), .int .u8 (0), .nilFunc, .pointer none, .int .i32 (0), .int .i32 (0)] := TZ.of (by kernel_rfl)
instance Try.tf124_0 : TF Try.prog 124 0 0 := TF.of (ft := 12) (k := 0) (by kernel_rfl)
instance Try.tg124_0 : TFt Try.prog 124 0 0 12 := TFt.of (k := 1) (by kernel_rfl)
instance Try.tf124_1 : TF Try.prog 124 1 1 := TF.of (ft := 12) (k := 0) (by kernel_rfl)
instance Try.tg124_1 : TFt Try.prog 124 1 1 12 := TFt.of (k := 1) (by kernel_rfl)
instance Try.tf124_2 : TF Try.prog 124 2 2 := TF.of (ft := 117) (k := 0) (by kernel_rfl)
instance Try.tg124_2 : TFt Try.prog 124 2 2 117 := TFt.of (k := 1) (by kernel_rfl)
instance Try.tf124_3 : TF Try.prog 124 3 3 := TF.of (ft := 118) (k := 0) (by kernel_rfl)
instance Try.tg124_3 : TFt Try.prog 124 3 3 118 := TFt.of (k := 1) (by kernel_rfl)
instance Try.tf124_4 : TF Try.prog 124 4 4 := TF.of (ft := 5) (k := 0) (by kernel_rfl)
instance Try.tg124_4 : TFt Try.prog 124 4 4 5 := TFt.of (k := 1) (by kernel_rfl)
instance Try.tf124_5 : TF Try.prog 124 5 5 := TF.of (ft := 5) (k := 0) (by kernel_rfl)
instance Try.tg124_5 : TFt Try.prog 124 5 5 5 := TFt.of (k := 1) (by kernel_rfl)
instance Try.tf124_6 : TF Try.prog 124 6 6 := TF.of (ft := 119) (k := 0) (by kernel_rfl)
instance Try.tg124_6 : TFt Try.prog 124 6 6 119 := TFt.of (k := 1) (by kernel_rfl)
instance Try.tf124_7 : TF Try.prog 124 7 7 := TF.of (ft := 120) (k := 0) (by kernel_rfl)
instance Try.tg124_7 : TFt Try.prog 124 7 7 120 := TFt.of (k := 1) (by kernel_rfl)
instance Try.tf124_8 : TF Try.prog 124 8 8 := TF.of (ft := 121) (k := 0) (by kernel_rfl)
instance Try.tg124_8 : TFt Try.prog 124 8 8 121 := TFt.of (k := 1) (by kernel_rfl)
instance Try.tf124_9 : TF Try.prog 124 9 9 := TF.of (ft := 122) (k := 0) (by kernel_rfl)
instance Try.tg124_9 : TFt Try.prog 124 9 9 122 := TFt.of (k := 1) (by kernel_rfl)
instance Try.tf124_10 : TF Try.prog 124 10 10 := TF.of (ft := 123) (k := 0) (by kernel_rfl)
instance Try.tg124_10 : TFt Try.prog 124 10 10 123 := TFt.of (k := 1) (by kernel_rfl)
instance Try.tp124 : TP Try.prog 124 [(0, 1), (1, 1), (2, 1), (3, 1), (4, 1), (5, 1), (6, 1), (7, 1), (8, 1), (9, 1), (10, 1)] := TP.of (by kernel_rfl)
instance Try.tl125 : TL Try.prog 125 11 true := ⟨by kernel_rfl, by kernel_rfl⟩
instance Try.tb125 : TB Try.prog 125 48 := ⟨by kernel_rfl⟩
instance Try.tz125 : TZ Try.prog 125 [.int .u64 (0), .int .u64 (0), .int .u32 (0), .int .u8 (0), .int .u8 (0), .int .u8 (0), .int .u8 (0), .nilFunc, .pointer none, .int .i32 (0), .int .i32 (0)] := TZ.of (by kernel_rfl)
instance Try.tf125_0 : TF Try.prog 125 0 0 := TF.of (ft := 12) (k := 0) (by kernel_rfl)
instance Try.tg125_0 : TFt Try.prog 125 0 0 12 := TFt.of (k := 1) (by kernel_rfl)
instance Try.tf125_1 : TF Try.prog 125 1 1 := TF.of (ft := 12) (k := 0) (by kernel_rfl)
instance Try.tg125_1 : TFt Try.prog 125 1 1 12 := TFt.of (k := 1) (by kernel_rfl)
instance Try.tf125_2 : TF Try.prog 125 2 2 := TF.of (ft := 117) (k := 0) (by kernel_rfl)
instance Try.tg125_2 : TFt Try.prog 125 2 2 117 := TFt.of (k := 1) (by kernel_rfl)
instance Try.tf125_3 : TF Try.prog 125 3 3 := TF.of (ft := 118) (k := 0) (by kernel_rfl)
instance Try.tg125_3 : TFt Try.prog 125 3 3 118 := TFt.of (k := 1) (by kernel_rfl)
instance Try.tf125_4 : TF Try.prog 125 4 4 := TF.of (ft := 5) (k := 0) (by kernel_rfl)
instance Try.tg125_4 : TFt Try.prog 125 4 4 5 := TFt.of (k := 1) (by kernel_rfl)
instance Try.tf125_5 : TF Try.prog 125 5 5 := TF.of (ft := 5) (k := 0) (by kernel_rfl)
instance Try.tg125_5 : TFt Try.prog 125 5 5 5 := TFt.of (k := 1) (by kernel_rfl)
instance Try.tf125_6 : TF Try.prog 125 6 6 := TF.of (ft := 119) (k := 0) (by kernel_rfl)
instance Try.tg125_6 : TFt Try.prog 125 6 6 119 := TFt.of (k := 1) (by kernel_rfl)
instance Try.tf125_7 : TF Try.prog 125 7 7 := TF.of (ft := 120) (k := 0) (by kernel_rfl)
instance Try.tg125_7 : TFt Try.prog 125 7 7 120 := TFt.of (k := 1) (by kernel_rfl)
instance Try.tf125_8 : TF Try.prog 125 8 8 := TF.of (ft := 121) (k := 0) (by kernel_rfl)
instance Try.tg125_8 : TFt Try.prog 125 8 8 121 := TFt.of (k := 1) (by kernel_rfl)
instance Try.tf125_9 : TF Try.prog 125 9 9 := TF.of (ft := 122) (k := 0) (by kernel_rfl)
instance Try.tg125_9 : TFt Try.prog 125 9 9 122 := TFt.of (k := 1) (by kernel_rfl)
instance Try.tf125_10 : TF Try.prog 125 10 10 := TF.of (ft := 123) (k := 0) (by kernel_rfl)
instance Try.tg125_10 : TFt Try.prog 125 10 10 123 := TFt.of (k := 1) (by kernel_rfl)
instance Try.tp125 : TP Try.prog 125 [(0, 1), (1, 1), (2, 1), (3, 1), (4, 1), (5, 1), (6, 1), (7, 1), (8, 1), (9, 1), (10, 1)] := TP.of (by kernel_rfl)
instance Try.en3 : Enters Try.prog 3 := ⟨⟨_, Try.func3, by kernel_rfl, by kernel_rfl⟩⟩
instance Try.en4 : Enters Try.prog 4 := ⟨⟨_, Try.func4, by kernel_rfl, by kernel_rfl⟩⟩
instance Try.en5 : Enters Try.prog 5 := ⟨⟨_, Try.func5, by kernel_rfl, by kernel_rfl⟩⟩
instance Try.en6 : Enters Try.prog 6 := ⟨⟨_, Try.func6, by kernel_rfl, by kernel_rfl⟩⟩
instance Try.en7 : Enters Try.prog 7 := ⟨⟨_, Try.func7, by kernel_rfl, by kernel_rfl⟩⟩
instance Try.en8 : Enters Try.prog 8 := ⟨⟨_, Try.func8, by kernel_rfl, by kernel_rfl⟩⟩
instance Try.en9 : Enters Try.prog 9 := ⟨⟨_, Try.func9, by kernel_rfl, by kernel_rfl⟩⟩
instance Try.en10 : Enters Try.prog 10 := ⟨⟨_, Try.func10, by kernel_rfl, by kernel_rfl⟩⟩
instance Try.en11 : Enters Try.prog 11 := ⟨⟨_, Try.func11, by kernel_rfl, by kernel_rfl⟩⟩
instance Try.en12 : Enters Try.prog 12 := ⟨⟨_, Try.func12, by kernel_rfl, by kernel_rfl⟩⟩
instance Try.en13 : Enters Try.prog 13 := ⟨⟨_, Try.func13, by kernel_rfl, by kernel_rfl⟩⟩
instance Try.en14 : Enters Try.prog 14 := ⟨⟨_, Try.func14, by kernel_rfl, by kernel_rfl⟩⟩
instance Try.en15 : Enters Try.prog 15 := ⟨⟨_, Try.func15, by kernel_rfl, by kernel_rfl⟩⟩
instance Try.en16 : Enters Try.prog 16 := ⟨⟨_, Try.func16, by kernel_rfl, by kernel_rfl⟩⟩
instance Try.en17 : Enters Try.prog 17 := ⟨⟨_, Try.func17, by kernel_rfl, by kernel_rfl⟩⟩
instance Try.en18 : Enters Try.prog 18 := ⟨⟨_, Try.func18, by kernel_rfl, by kernel_rfl⟩⟩
instance Try.en19 : Enters Try.prog 19 := ⟨⟨_, Try.func19, by kernel_rfl, by kernel_rfl⟩⟩
instance Try.en20 : Enters Try.prog 20 := ⟨⟨_, Try.func20, by kernel_rfl, by kernel_rfl⟩⟩
instance Try.en21 : Enters Try.prog 21 := ⟨⟨_, Try.func21, by kernel_rfl, by kernel_rfl⟩⟩
instance Try.en22 : Enters Try.prog 22 := ⟨⟨_, Try.func22, by kernel_rfl, by kernel_rfl⟩⟩
instance Try.en23 : Enters Try.prog 23 := ⟨⟨_, Try.func23, by kernel_rfl, by kernel_rfl⟩⟩
instance Try.en24 : Enters Try.prog 24 := ⟨⟨_, Try.func24, by kernel_rfl, by kernel_rfl⟩⟩
instance Try.en25 : Enters Try.prog 25 := ⟨⟨_, Try.func25, by kernel_rfl, by kernel_rfl⟩⟩
instance Try.en26 : Enters Try.prog 26 := ⟨⟨_, Try.func26, by kernel_rfl, by kernel_rfl⟩⟩
instance Try.en27 : Enters Try.prog 27 := ⟨⟨_, Try.func27, by kernel_rfl, by kernel_rfl⟩⟩
instance Try.en28 : Enters Try.prog 28 := ⟨⟨_, Try.func28, by kernel_rfl, by kernel_rfl⟩⟩
instance Try.en29 : Enters Try.prog 29 := ⟨⟨_, Try.func29, by kernel_rfl, by kernel_rfl⟩⟩
instance Try.en30 : Enters Try.prog 30 := ⟨⟨_, Try.func30, by kernel_rfl, by kernel_rfl⟩⟩
instance Try.en31 : Enters Try.prog 31 := ⟨⟨_, Try.func31, by kernel_rfl, by kernel_rfl⟩⟩
instance Try.en32 : Enters Try.prog 32 := ⟨⟨_, Try.func32, by kernel_rfl, by kernel_rfl⟩⟩
instance Try.en33 : Enters Try.prog 33 := ⟨⟨_, Try.func33, by kernel_rfl, by kernel_rfl⟩⟩
instance Try.en34 : Enters Try.prog 34 := ⟨⟨_, Try.func34, by kernel_rfl, by kernel_rfl⟩⟩
instance Try.en35 : Enters Try.prog 35 := ⟨⟨_, Try.func35, by kernel_rfl, by kernel_rfl⟩⟩
instance Try.en36 : Enters Try.prog 36 := ⟨⟨_, Try.func36, by kernel_rfl, by kernel_rfl⟩⟩
instance Try.en37 : Enters Try.prog 37 := ⟨⟨_, Try.func37, by kernel_rfl, by kernel_rfl⟩⟩
instance Try.en38 : Enters Try.prog 38 := ⟨⟨_, Try.func38, by kernel_rfl, by kernel_rfl⟩⟩
instance Try.en39 : Enters Try.prog 39 := ⟨⟨_, Try.func39, by kernel_rfl, by kernel_rfl⟩⟩
instance Try.en40 : Enters Try.prog 40 := ⟨⟨_, Try.func40, by kernel_rfl, by kernel_rfl⟩⟩
instance Try.en41 : Enters Try.prog 41 := ⟨⟨_, Try.func41, by kernel_rfl, by kernel_rfl⟩⟩
instance Try.en42 : Enters Try.prog 42 := ⟨⟨_, Try.func42, by kernel_rfl, by kernel_rfl⟩⟩
instance Try.en43 : Enters Try.prog 43 := ⟨⟨_, Try.func43, by kernel_rfl, by kernel_rfl⟩⟩
instance Try.en44 : Enters Try.prog 44 := ⟨⟨_, Try.func44, by kernel_rfl, by kernel_rfl⟩⟩
instance Try.en45 : Enters Try.prog 45 := ⟨⟨_, Try.func45, by kernel_rfl, by kernel_rfl⟩⟩
instance Try.en46 : Enters Try.prog 46 := ⟨⟨_, Try.func46, by kernel_rfl, by kernel_rfl⟩⟩
instance Try.en47 : Enters Try.prog 47 := ⟨⟨_, Try.func47, by kernel_rfl, by kernel_rfl⟩⟩
instance Try.en48 : Enters Try.prog 48 := ⟨⟨_, Try.func48, by kernel_rfl, by kernel_rfl⟩⟩
instance Try.en49 : Enters Try.prog 49 := ⟨⟨_, Try.func49, by kernel_rfl, by kernel_rfl⟩⟩
instance Try.en50 : Enters Try.prog 50 := ⟨⟨_, Try.func50, by kernel_rfl, by kernel_rfl⟩⟩
instance Try.en51 : Enters Try.prog 51 := ⟨⟨_, Try.func51, by kernel_rfl, by kernel_rfl⟩⟩
instance Try.en52 : Enters Try.prog 52 := ⟨⟨_, Try.func52, by kernel_rfl, by kernel_rfl⟩⟩
instance Try.en53 : Enters Try.prog 53 := ⟨⟨_, Try.func53, by kernel_rfl, by kernel_rfl⟩⟩
instance Try.en54 : Enters Try.prog 54 := ⟨⟨_, Try.func54, by kernel_rfl, by kernel_rfl⟩⟩
instance Try.en55 : Enters Try.prog 55 := ⟨⟨_, Try.func55, by kernel_rfl, by kernel_rfl⟩⟩
instance Try.en56 : Enters Try.prog 56 := ⟨⟨_, Try.func56, by kernel_rfl, by kernel_rfl⟩⟩
instance Try.en57 : Enters Try.prog 57 := ⟨⟨_, Try.func57, by kernel_rfl, by kernel_rfl⟩⟩
instance Try.en58 : Enters Try.prog 58 := ⟨⟨_, Try.func58, by kernel_rfl, by kernel_rfl⟩⟩
instance Try.en59 : Enters Try.prog 59 := ⟨⟨_, Try.func59, by kernel_rfl, by kernel_rfl⟩⟩
instance Try.en60 : Enters Try.prog 60 := ⟨⟨_, Try.func60, by kernel_rfl, by kernel_rfl⟩⟩
instance Try.en61 : Enters Try.prog 61 := ⟨⟨_, Try.func61, by kernel_rfl, by kernel_rfl⟩⟩
instance Try.en62 : Enters Try.prog 62 := ⟨⟨_, Try.func62, by kernel_rfl, by kernel_rfl⟩⟩
instance Try.en63 : Enters Try.prog 63 := ⟨⟨_, Try.func63, by kernel_rfl, by kernel_rfl⟩⟩
instance Try.en64 : Enters Try.prog 64 := ⟨⟨_, Try.func64, by kernel_rfl, by kernel_rfl⟩⟩
end Go.Proofs
