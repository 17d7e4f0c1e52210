/- Facts on the types and functions of this program, each by computation. -/
import Derived.Test.YtfiaobhkhedpiaaRows
import Derived.Test.YtfiaobhkhedpiaaSe5
namespace Go.Proofs.Ytfiaobhkhedpiaa
open Go.RowKit
theorem cf13 : CallsTo Try.prog 13 := callsTo Try.func13 (by kernel_rfl) (by kernel_rfl)
theorem ty_sz4 : szOf Try.prog 4 = some 1 := by kernel_rfl
theorem ty_sc4 : scalarT Try.prog 4 = true := by kernel_rfl
theorem ty_z4 : zeroOf Try.prog 4 = some [.bool false] := by kernel_rfl
theorem ty_u4 : Try.prog.underlying 4 = some (.bool) := by kernel_rfl
theorem ty_sz22 : szOf Try.prog 22 = some 1 := by kernel_rfl
theorem ty_sc22 : scalarT Try.prog 22 = true := by kernel_rfl
theorem ty_z22 : zeroOf Try.prog 22 = some [.slice none 0 0] := by kernel_rfl
theorem ty_sl22 : sliceT Try.prog 22 = some 26 := by kernel_rfl
theorem ty_sz26 : szOf Try.prog 26 = some 4 := by kernel_rfl
theorem ty_st26 : structT Try.prog 26 = true := by kernel_rfl
theorem ty_pl26 : placesOf Try.prog 26 = some [(0, 1), (1, 1), (2, 1), (3, 1)] := by kernel_rfl
theorem ty_z26 : zeroOf Try.prog 26 = some [.string ⟨#[]⟩, .int .i64 0, .int .i64 0, .int .i64 0] := by kernel_rfl
theorem ty_by26 : byOf Try.prog 26 = some 40 := by kernel_rfl
theorem ty_sz3 : szOf Try.prog 3 = some 1 := by kernel_rfl
theorem ty_sc3 : scalarT Try.prog 3 = true := by kernel_rfl
theorem ty_z3 : zeroOf Try.prog 3 = some [.int .i64 0] := by kernel_rfl
theorem ty_u3 : Try.prog.underlying 3 = some (.int .i64) := by kernel_rfl
theorem ty_sz23 : szOf Try.prog 23 = some 1 := by kernel_rfl
theorem ty_sc23 : scalarT Try.prog 23 = true := by kernel_rfl
theorem ty_z23 : zeroOf Try.prog 23 = some [.slice none 0 0] := by kernel_rfl
theorem ty_sl23 : sliceT Try.prog 23 = some 3 := by kernel_rfl
theorem ty_by3 : byOf Try.prog 3 = some 8 := by kernel_rfl
theorem ty_sz9 : szOf Try.prog 9 = some 1 := by kernel_rfl
theorem ty_sc9 : scalarT Try.prog 9 = true := by kernel_rfl
theorem ty_z9 : zeroOf Try.prog 9 = some [.string ⟨#[]⟩] := by kernel_rfl
theorem ty_u9 : Try.prog.underlying 9 = some (.string) := by kernel_rfl
theorem ty_fo26_0 : fieldOff Try.prog 26 0 = some 0 := by kernel_rfl
theorem ty_ft26_0 : fieldTy Try.prog 26 0 = some 9 := by kernel_rfl
theorem cf14 : CallsTo Try.prog 14 := callsTo Try.func14 (by kernel_rfl) (by kernel_rfl)
theorem ty_sz27 : szOf Try.prog 27 = some 1 := by kernel_rfl
theorem ty_sc27 : scalarT Try.prog 27 = true := by kernel_rfl
theorem ty_z27 : zeroOf Try.prog 27 = some [.pointer none] := by kernel_rfl
theorem ty_u27 : Try.prog.underlying 27 = some (.pointer (Try.prog.pointee 27)) := by kernel_rfl
theorem cf15 : CallsTo Try.prog 15 := callsTo Try.func15 (by kernel_rfl) (by kernel_rfl)
theorem ty_sz29 : szOf Try.prog 29 = some 1 := by kernel_rfl
theorem ty_sc29 : scalarT Try.prog 29 = true := by kernel_rfl
theorem ty_z29 : zeroOf Try.prog 29 = some [.int .i64 0] := by kernel_rfl
theorem ty_u29 : Try.prog.underlying 29 = some (.int .i64) := by kernel_rfl
theorem cf16 : CallsTo Try.prog 16 := callsTo Try.func16 (by kernel_rfl) (by kernel_rfl)
theorem cf17 : CallsTo Try.prog 17 := callsTo Try.func17 (by kernel_rfl) (by kernel_rfl)
theorem ty_sz34 : szOf Try.prog 34 = some 13 := by kernel_rfl
theorem ty_st34 : structT Try.prog 34 = true := by kernel_rfl
theorem ty_pl34 : placesOf Try.prog 34 = some [(0, 1), (1, 1), (2, 1), (3, 1), (4, 1), (5, 1), (6, 1), (7, 1), (8, 1), (9, 1), (10, 1), (11, 1), (12, 1)] := by kernel_rfl
theorem ty_z34 : zeroOf Try.prog 34 = some [.int .i64 0, .int .i64 0, .int .i64 0, .int .i64 0, .string ⟨#[]⟩, .string ⟨#[]⟩, .slice none 0 0, .int .i64 0, .int .i64 0, .int .i64 0, .int .i64 0, .int .i64 0, .int .i64 0] := by kernel_rfl
theorem ty_fo34_9 : fieldOff Try.prog 34 9 = some 9 := by kernel_rfl
theorem ty_ft34_9 : fieldTy Try.prog 34 9 = some 3 := by kernel_rfl
theorem cf18 : CallsTo Try.prog 18 := callsTo Try.func18 (by kernel_rfl) (by kernel_rfl)
theorem cf19 : CallsTo Try.prog 19 := callsTo Try.func19 (by kernel_rfl) (by kernel_rfl)
theorem ty_fo34_12 : fieldOff Try.prog 34 12 = some 12 := by kernel_rfl
theorem ty_ft34_12 : fieldTy Try.prog 34 12 = some 3 := by kernel_rfl
theorem ty_fo34_10 : fieldOff Try.prog 34 10 = some 10 := by kernel_rfl
theorem ty_ft34_10 : fieldTy Try.prog 34 10 = some 3 := by kernel_rfl
theorem ty_fo34_11 : fieldOff Try.prog 34 11 = some 11 := by kernel_rfl
theorem ty_ft34_11 : fieldTy Try.prog 34 11 = some 3 := by kernel_rfl
theorem ty_sz39 : szOf Try.prog 39 = some 1 := by kernel_rfl
theorem ty_sc39 : scalarT Try.prog 39 = true := by kernel_rfl
theorem ty_z39 : zeroOf Try.prog 39 = some [.slice none 0 0] := by kernel_rfl
theorem ty_sl39 : sliceT Try.prog 39 = some 44 := by kernel_rfl
theorem ty_sz44 : szOf Try.prog 44 = some 9 := by kernel_rfl
theorem ty_st44 : structT Try.prog 44 = true := by kernel_rfl
theorem ty_pl44 : placesOf Try.prog 44 = some [(0, 1), (1, 1), (2, 1), (3, 1), (4, 1), (5, 1), (6, 1), (7, 1), (8, 1)] := by kernel_rfl
theorem ty_z44 : zeroOf Try.prog 44 = some [.int .i64 0, .int .i64 0, .int .i64 0, .int .i64 0, .string ⟨#[]⟩, .string ⟨#[]⟩, .slice none 0 0, .int .i64 0, .int .i64 0] := by kernel_rfl
theorem ty_by44 : byOf Try.prog 44 = some 104 := by kernel_rfl
theorem cf20 : CallsTo Try.prog 20 := callsTo Try.func20 (by kernel_rfl) (by kernel_rfl)
theorem cf21 : CallsTo Try.prog 21 := callsTo Try.func21 (by kernel_rfl) (by kernel_rfl)
theorem ty_fo44_0 : fieldOff Try.prog 44 0 = some 0 := by kernel_rfl
theorem ty_ft44_0 : fieldTy Try.prog 44 0 = some 3 := by kernel_rfl
theorem ty_fo44_4 : fieldOff Try.prog 44 4 = some 4 := by kernel_rfl
theorem ty_ft44_4 : fieldTy Try.prog 44 4 = some 9 := by kernel_rfl
theorem ty_fo44_5 : fieldOff Try.prog 44 5 = some 5 := by kernel_rfl
theorem ty_ft44_5 : fieldTy Try.prog 44 5 = some 9 := by kernel_rfl
theorem ty_fo44_1 : fieldOff Try.prog 44 1 = some 1 := by kernel_rfl
theorem ty_ft44_1 : fieldTy Try.prog 44 1 = some 3 := by kernel_rfl
theorem ty_fo44_2 : fieldOff Try.prog 44 2 = some 2 := by kernel_rfl
theorem ty_ft44_2 : fieldTy Try.prog 44 2 = some 3 := by kernel_rfl
theorem ty_fo44_3 : fieldOff Try.prog 44 3 = some 3 := by kernel_rfl
theorem ty_ft44_3 : fieldTy Try.prog 44 3 = some 3 := by kernel_rfl
theorem ty_fo44_6 : fieldOff Try.prog 44 6 = some 6 := by kernel_rfl
theorem ty_ft44_6 : fieldTy Try.prog 44 6 = some 22 := by kernel_rfl
theorem ty_fo44_7 : fieldOff Try.prog 44 7 = some 7 := by kernel_rfl
theorem ty_ft44_7 : fieldTy Try.prog 44 7 = some 3 := by kernel_rfl
theorem ty_fo44_8 : fieldOff Try.prog 44 8 = some 8 := by kernel_rfl
theorem ty_ft44_8 : fieldTy Try.prog 44 8 = some 3 := by kernel_rfl
theorem cf22 : CallsTo Try.prog 22 := callsTo Try.func22 (by kernel_rfl) (by kernel_rfl)
theorem ty_sz41 : szOf Try.prog 41 = some 1 := by kernel_rfl
theorem ty_sc41 : scalarT Try.prog 41 = true := by kernel_rfl
theorem ty_z41 : zeroOf Try.prog 41 = some [.slice none 0 0] := by kernel_rfl
theorem ty_sl41 : sliceT Try.prog 41 = some 34 := by kernel_rfl
theorem ty_by34 : byOf Try.prog 34 = some 136 := by kernel_rfl
theorem ty_sz47 : szOf Try.prog 47 = some 2 := by kernel_rfl
theorem ty_st47 : structT Try.prog 47 = true := by kernel_rfl
theorem ty_pl47 : placesOf Try.prog 47 = some [(0, 1), (1, 1)] := by kernel_rfl
theorem ty_z47 : zeroOf Try.prog 47 = some [.bool false, .slice none 0 0] := by kernel_rfl
theorem ty_fo34_6 : fieldOff Try.prog 34 6 = some 6 := by kernel_rfl
theorem ty_ft34_6 : fieldTy Try.prog 34 6 = some 22 := by kernel_rfl
theorem ty_fo26_2 : fieldOff Try.prog 26 2 = some 2 := by kernel_rfl
theorem ty_ft26_2 : fieldTy Try.prog 26 2 = some 3 := by kernel_rfl
theorem cf24 : CallsTo Try.prog 24 := callsTo Try.func24 (by kernel_rfl) (by kernel_rfl)
theorem cf23 : CallsTo Try.prog 23 := callsTo Try.func23 (by kernel_rfl) (by kernel_rfl)
theorem ty_fo26_3 : fieldOff Try.prog 26 3 = some 3 := by kernel_rfl
theorem ty_ft26_3 : fieldTy Try.prog 26 3 = some 3 := by kernel_rfl
theorem ty_fo34_7 : fieldOff Try.prog 34 7 = some 7 := by kernel_rfl
theorem ty_ft34_7 : fieldTy Try.prog 34 7 = some 3 := by kernel_rfl
theorem cf25 : CallsTo Try.prog 25 := callsTo Try.func25 (by kernel_rfl) (by kernel_rfl)
theorem ty_fo34_8 : fieldOff Try.prog 34 8 = some 8 := by kernel_rfl
theorem ty_ft34_8 : fieldTy Try.prog 34 8 = some 3 := by kernel_rfl
theorem ty_fo34_0 : fieldOff Try.prog 34 0 = some 0 := by kernel_rfl
theorem ty_ft34_0 : fieldTy Try.prog 34 0 = some 3 := by kernel_rfl
theorem ty_fo34_1 : fieldOff Try.prog 34 1 = some 1 := by kernel_rfl
theorem ty_ft34_1 : fieldTy Try.prog 34 1 = some 3 := by kernel_rfl
theorem ty_fo34_2 : fieldOff Try.prog 34 2 = some 2 := by kernel_rfl
theorem ty_ft34_2 : fieldTy Try.prog 34 2 = some 3 := by kernel_rfl
theorem ty_fo34_3 : fieldOff Try.prog 34 3 = some 3 := by kernel_rfl
theorem ty_ft34_3 : fieldTy Try.prog 34 3 = some 3 := by kernel_rfl
theorem ty_fo34_4 : fieldOff Try.prog 34 4 = some 4 := by kernel_rfl
theorem ty_ft34_4 : fieldTy Try.prog 34 4 = some 9 := by kernel_rfl
theorem cf26 : CallsTo Try.prog 26 := callsTo Try.func26 (by kernel_rfl) (by kernel_rfl)
theorem ty_sz56 : szOf Try.prog 56 = some 1 := by kernel_rfl
theorem ty_st56 : structT Try.prog 56 = true := by kernel_rfl
theorem ty_pl56 : placesOf Try.prog 56 = some [(0, 1)] := by kernel_rfl
theorem ty_z56 : zeroOf Try.prog 56 = some [.slice none 0 0] := by kernel_rfl
theorem ty_sz53 : szOf Try.prog 53 = some 1 := by kernel_rfl
theorem ty_sc53 : scalarT Try.prog 53 = true := by kernel_rfl
theorem ty_z53 : zeroOf Try.prog 53 = some [.pointer none] := by kernel_rfl
theorem ty_u53 : Try.prog.underlying 53 = some (.pointer (Try.prog.pointee 53)) := by kernel_rfl
theorem cf27 : CallsTo Try.prog 27 := callsTo Try.func27 (by kernel_rfl) (by kernel_rfl)
theorem cf28 : CallsTo Try.prog 28 := callsTo Try.func28 (by kernel_rfl) (by kernel_rfl)
theorem ty_sz60 : szOf Try.prog 60 = some 2 := by kernel_rfl
theorem ty_st60 : structT Try.prog 60 = true := by kernel_rfl
theorem ty_pl60 : placesOf Try.prog 60 = some [(0, 1), (1, 1)] := by kernel_rfl
theorem ty_z60 : zeroOf Try.prog 60 = some [.int .u64 0, .int .u64 0] := by kernel_rfl
theorem cf29 : CallsTo Try.prog 29 := callsTo Try.func29 (by kernel_rfl) (by kernel_rfl)
theorem cf31 : CallsTo Try.prog 31 := callsTo Try.func31 (by kernel_rfl) (by kernel_rfl)
theorem cf30 : CallsTo Try.prog 30 := callsTo Try.func30 (by kernel_rfl) (by kernel_rfl)
theorem cf32 : CallsTo Try.prog 32 := callsTo Try.func32 (by kernel_rfl) (by kernel_rfl)
theorem cf33 : CallsTo Try.prog 33 := callsTo Try.func33 (by kernel_rfl) (by kernel_rfl)
theorem cf34 : CallsTo Try.prog 34 := callsTo Try.func34 (by kernel_rfl) (by kernel_rfl)
theorem cf35 : CallsTo Try.prog 35 := callsTo Try.func35 (by kernel_rfl) (by kernel_rfl)
theorem cf36 : CallsTo Try.prog 36 := callsTo Try.func36 (by kernel_rfl) (by kernel_rfl)
theorem cf37 : CallsTo Try.prog 37 := callsTo Try.func37 (by kernel_rfl) (by kernel_rfl)
theorem cf38 : CallsTo Try.prog 38 := callsTo Try.func38 (by kernel_rfl) (by kernel_rfl)
theorem cf39 : CallsTo Try.prog 39 := callsTo Try.func39 (by kernel_rfl) (by kernel_rfl)
theorem cf40 : CallsTo Try.prog 40 := callsTo Try.func40 (by kernel_rfl) (by kernel_rfl)
theorem cf41 : CallsTo Try.prog 41 := callsTo Try.func41 (by kernel_rfl) (by kernel_rfl)
theorem cf42 : CallsTo Try.prog 42 := callsTo Try.func42 (by kernel_rfl) (by kernel_rfl)
theorem cf43 : CallsTo Try.prog 43 := callsTo Try.func43 (by kernel_rfl) (by kernel_rfl)
theorem cf44 : CallsTo Try.prog 44 := callsTo Try.func44 (by kernel_rfl) (by kernel_rfl)
theorem cf45 : CallsTo Try.prog 45 := callsTo Try.func45 (by kernel_rfl) (by kernel_rfl)
theorem cf46 : CallsTo Try.prog 46 := callsTo Try.func46 (by kernel_rfl) (by kernel_rfl)
theorem cf47 : CallsTo Try.prog 47 := callsTo Try.func47 (by kernel_rfl) (by kernel_rfl)
theorem cf48 : CallsTo Try.prog 48 := callsTo Try.func48 (by kernel_rfl) (by kernel_rfl)
theorem cf49 : CallsTo Try.prog 49 := callsTo Try.func49 (by kernel_rfl) (by kernel_rfl)
theorem cf50 : CallsTo Try.prog 50 := callsTo Try.func50 (by kernel_rfl) (by kernel_rfl)
theorem cf51 : CallsTo Try.prog 51 := callsTo Try.func51 (by kernel_rfl) (by kernel_rfl)
theorem cf52 : CallsTo Try.prog 52 := callsTo Try.func52 (by kernel_rfl) (by kernel_rfl)
theorem cf53 : CallsTo Try.prog 53 := callsTo Try.func53 (by kernel_rfl) (by kernel_rfl)
theorem cf54 : CallsTo Try.prog 54 := callsTo Try.func54 (by kernel_rfl) (by kernel_rfl)
theorem ty_sz92 : szOf Try.prog 92 = some 1 := by kernel_rfl
theorem ty_st92 : structT Try.prog 92 = true := by kernel_rfl
theorem ty_pl92 : placesOf Try.prog 92 = some [(0, 1)] := by kernel_rfl
theorem ty_z92 : zeroOf Try.prog 92 = some [.slice none 0 0] := by kernel_rfl
theorem cf55 : CallsTo Try.prog 55 := callsTo Try.func55 (by kernel_rfl) (by kernel_rfl)
theorem cf56 : CallsTo Try.prog 56 := callsTo Try.func56 (by kernel_rfl) (by kernel_rfl)
theorem cf57 : CallsTo Try.prog 57 := callsTo Try.func57 (by kernel_rfl) (by kernel_rfl)
theorem ty_fo92_0 : fieldOff Try.prog 92 0 = some 0 := by kernel_rfl
theorem ty_ft92_0 : fieldTy Try.prog 92 0 = some 41 := by kernel_rfl
theorem cf58 : CallsTo Try.prog 58 := callsTo Try.func58 (by kernel_rfl) (by kernel_rfl)
theorem cf59 : CallsTo Try.prog 59 := callsTo Try.func59 (by kernel_rfl) (by kernel_rfl)
theorem ty_sz98 : szOf Try.prog 98 = some 1 := by kernel_rfl
theorem ty_sc98 : scalarT Try.prog 98 = true := by kernel_rfl
theorem ty_z98 : zeroOf Try.prog 98 = some [.pointer none] := by kernel_rfl
theorem ty_u98 : Try.prog.underlying 98 = some (.pointer (Try.prog.pointee 98)) := by kernel_rfl
theorem ty_sz102 : szOf Try.prog 102 = some 1 := by kernel_rfl
theorem ty_sc102 : scalarT Try.prog 102 = true := by kernel_rfl
theorem ty_z102 : zeroOf Try.prog 102 = some [.nilFunc] := by kernel_rfl
theorem cf60 : CallsTo Try.prog 60 := callsTo Try.func60 (by kernel_rfl) (by kernel_rfl)
theorem cf61 : CallsTo Try.prog 61 := callsTo Try.func61 (by kernel_rfl) (by kernel_rfl)
theorem cf62 : CallsTo Try.prog 62 := callsTo Try.func62 (by kernel_rfl) (by kernel_rfl)
theorem ty_sz104 : szOf Try.prog 104 = some 1 := by kernel_rfl
theorem ty_sc104 : scalarT Try.prog 104 = true := by kernel_rfl
theorem ty_z104 : zeroOf Try.prog 104 = some [.nilFunc] := by kernel_rfl
theorem cf63 : CallsTo Try.prog 63 := callsTo Try.func63 (by kernel_rfl) (by kernel_rfl)
theorem cf64 : CallsTo Try.prog 64 := callsTo Try.func64 (by kernel_rfl) (by kernel_rfl)
theorem ty_sz106 : szOf Try.prog 106 = some 1 := by kernel_rfl
theorem ty_sc106 : scalarT Try.prog 106 = true := by kernel_rfl
theorem ty_z106 : zeroOf Try.prog 106 = some [.nilFunc] := by kernel_rfl
theorem cf65 : CallsTo Try.prog 65 := callsTo Try.func65 (by kernel_rfl) (by kernel_rfl)
theorem cf66 : CallsTo Try.prog 66 := callsTo Try.func66 (by kernel_rfl) (by kernel_rfl)
theorem ty_fo47_0 : fieldOff Try.prog 47 0 = some 0 := by kernel_rfl
theorem ty_ft47_0 : fieldTy Try.prog 47 0 = some 4 := by kernel_rfl
theorem ty_fo47_1 : fieldOff Try.prog 47 1 = some 1 := by kernel_rfl
theorem ty_ft47_1 : fieldTy Try.prog 47 1 = some 23 := by kernel_rfl
theorem cf68 : CallsTo Try.prog 68 := callsTo Try.func68 (by kernel_rfl) (by kernel_rfl)
theorem cf67 : CallsTo Try.prog 67 := callsTo Try.func67 (by kernel_rfl) (by kernel_rfl)
theorem cf69 : CallsTo Try.prog 69 := callsTo Try.func69 (by kernel_rfl) (by kernel_rfl)
theorem cf70 : CallsTo Try.prog 70 := callsTo Try.func70 (by kernel_rfl) (by kernel_rfl)
theorem cf71 : CallsTo Try.prog 71 := callsTo Try.func71 (by kernel_rfl) (by kernel_rfl)
theorem cf73 : CallsTo Try.prog 73 := callsTo Try.func73 (by kernel_rfl) (by kernel_rfl)
theorem ty_sz112 : szOf Try.prog 112 = some 1 := by kernel_rfl
theorem ty_sc112 : scalarT Try.prog 112 = true := by kernel_rfl
theorem ty_z112 : zeroOf Try.prog 112 = some [.slice none 0 0] := by kernel_rfl
theorem ty_sl112 : sliceT Try.prog 112 = some 148 := by kernel_rfl
theorem ty_sz148 : szOf Try.prog 148 = some 4 := by kernel_rfl
theorem ty_st148 : structT Try.prog 148 = true := by kernel_rfl
theorem ty_pl148 : placesOf Try.prog 148 = some [(0, 1), (1, 1), (2, 1), (3, 1)] := by kernel_rfl
theorem ty_z148 : zeroOf Try.prog 148 = some [.string ⟨#[]⟩, .int .i64 0, .int .i64 0, .int .i64 0] := by kernel_rfl
theorem ty_by148 : byOf Try.prog 148 = some 40 := by kernel_rfl
theorem cf72 : CallsTo Try.prog 72 := callsTo Try.func72 (by kernel_rfl) (by kernel_rfl)
theorem cf74 : CallsTo Try.prog 74 := callsTo Try.func74 (by kernel_rfl) (by kernel_rfl)
theorem cf75 : CallsTo Try.prog 75 := callsTo Try.func75 (by kernel_rfl) (by kernel_rfl)
theorem cf76 : CallsTo Try.prog 76 := callsTo Try.func76 (by kernel_rfl) (by kernel_rfl)
theorem cf77 : CallsTo Try.prog 77 := callsTo Try.func77 (by kernel_rfl) (by kernel_rfl)
theorem ty_sz54 : szOf Try.prog 54 = some 1 := by kernel_rfl
theorem ty_sc54 : scalarT Try.prog 54 = true := by kernel_rfl
theorem ty_z54 : zeroOf Try.prog 54 = some [.slice none 0 0] := by kernel_rfl
theorem ty_sl54 : sliceT Try.prog 54 = some 119 := by kernel_rfl
theorem ty_sz119 : szOf Try.prog 119 = some 13 := by kernel_rfl
theorem ty_st119 : structT Try.prog 119 = true := by kernel_rfl
theorem ty_pl119 : placesOf Try.prog 119 = some [(0, 1), (1, 1), (2, 1), (3, 1), (4, 1), (5, 1), (6, 1), (7, 1), (8, 1), (9, 1), (10, 1), (11, 1), (12, 1)] := by kernel_rfl
theorem ty_z119 : zeroOf Try.prog 119 = some [.int .i64 0, .int .i64 0, .int .i64 0, .int .i64 0, .string ⟨#[]⟩, .string ⟨#[]⟩, .slice none 0 0, .int .i64 0, .int .i64 0, .int .i64 0, .int .i64 0, .int .i64 0, .int .i64 0] := by kernel_rfl
theorem ty_by119 : byOf Try.prog 119 = some 136 := by kernel_rfl
theorem ty_fo56_0 : fieldOff Try.prog 56 0 = some 0 := by kernel_rfl
theorem ty_ft56_0 : fieldTy Try.prog 56 0 = some 54 := by kernel_rfl
theorem cf78 : CallsTo Try.prog 78 := callsTo Try.func78 (by kernel_rfl) (by kernel_rfl)
theorem cf79 : CallsTo Try.prog 79 := callsTo Try.func79 (by kernel_rfl) (by kernel_rfl)
theorem ty_fo119_4 : fieldOff Try.prog 119 4 = some 4 := by kernel_rfl
theorem ty_ft119_4 : fieldTy Try.prog 119 4 = some 9 := by kernel_rfl
theorem ty_sz58 : szOf Try.prog 58 = some 1 := by kernel_rfl
theorem ty_sc58 : scalarT Try.prog 58 = true := by kernel_rfl
theorem ty_z58 : zeroOf Try.prog 58 = some [.int .u64 0] := by kernel_rfl
theorem ty_u58 : Try.prog.underlying 58 = some (.int .u64) := by kernel_rfl
theorem ty_fo60_0 : fieldOff Try.prog 60 0 = some 0 := by kernel_rfl
theorem ty_ft60_0 : fieldTy Try.prog 60 0 = some 58 := by kernel_rfl
theorem ty_fo60_1 : fieldOff Try.prog 60 1 = some 1 := by kernel_rfl
theorem ty_ft60_1 : fieldTy Try.prog 60 1 = some 58 := by kernel_rfl
theorem cf80 : CallsTo Try.prog 80 := callsTo Try.func80 (by kernel_rfl) (by kernel_rfl)
theorem cf81 : CallsTo Try.prog 81 := callsTo Try.func81 (by kernel_rfl) (by kernel_rfl)
theorem ty_sz122 : szOf Try.prog 122 = some 1 := by kernel_rfl
theorem ty_sc122 : scalarT Try.prog 122 = true := by kernel_rfl
theorem ty_z122 : zeroOf Try.prog 122 = some [.nilFunc] := by kernel_rfl
theorem cf82 : CallsTo Try.prog 82 := callsTo Try.func82 (by kernel_rfl) (by kernel_rfl)
theorem ty_sz5 : szOf Try.prog 5 = some 1 := by kernel_rfl
theorem ty_sc5 : scalarT Try.prog 5 = true := by kernel_rfl
theorem ty_z5 : zeroOf Try.prog 5 = some [.int .u8 0] := by kernel_rfl
theorem ty_u5 : Try.prog.underlying 5 = some (.int .u8) := by kernel_rfl
theorem cf83 : CallsTo Try.prog 83 := callsTo Try.func83 (by kernel_rfl) (by kernel_rfl)
theorem ty_sz125 : szOf Try.prog 125 = some 2 := by kernel_rfl
theorem ty_st125 : structT Try.prog 125 = true := by kernel_rfl
theorem ty_pl125 : placesOf Try.prog 125 = some [(0, 1), (1, 1)] := by kernel_rfl
theorem ty_z125 : zeroOf Try.prog 125 = some [.int .u64 0, .int .u64 0] := by kernel_rfl
theorem cf84 : CallsTo Try.prog 84 := callsTo Try.func84 (by kernel_rfl) (by kernel_rfl)
theorem ty_sz129 : szOf Try.prog 129 = some 1 := by kernel_rfl
theorem ty_sc129 : scalarT Try.prog 129 = true := by kernel_rfl
theorem ty_z129 : zeroOf Try.prog 129 = some [.slice none 0 0] := by kernel_rfl
theorem ty_sl129 : sliceT Try.prog 129 = some 5 := by kernel_rfl
theorem ty_by5 : byOf Try.prog 5 = some 1 := by kernel_rfl
theorem cf85 : CallsTo Try.prog 85 := callsTo Try.func85 (by kernel_rfl) (by kernel_rfl)
theorem cf86 : CallsTo Try.prog 86 := callsTo Try.func86 (by kernel_rfl) (by kernel_rfl)
theorem cf87 : CallsTo Try.prog 87 := callsTo Try.func87 (by kernel_rfl) (by kernel_rfl)
theorem cf88 : CallsTo Try.prog 88 := callsTo Try.func88 (by kernel_rfl) (by kernel_rfl)
theorem cf89 : CallsTo Try.prog 89 := callsTo Try.func89 (by kernel_rfl) (by kernel_rfl)
theorem cf90 : CallsTo Try.prog 90 := callsTo Try.func90 (by kernel_rfl) (by kernel_rfl)
theorem ty_fo125_1 : fieldOff Try.prog 125 1 = some 1 := by kernel_rfl
theorem ty_ft125_1 : fieldTy Try.prog 125 1 = some 58 := by kernel_rfl
theorem ty_fo125_0 : fieldOff Try.prog 125 0 = some 0 := by kernel_rfl
theorem ty_ft125_0 : fieldTy Try.prog 125 0 = some 58 := by kernel_rfl
theorem cf92 : CallsTo Try.prog 92 := callsTo Try.func92 (by kernel_rfl) (by kernel_rfl)
theorem ty_sz137 : szOf Try.prog 137 = some 1 := by kernel_rfl
theorem ty_sc137 : scalarT Try.prog 137 = true := by kernel_rfl
theorem ty_z137 : zeroOf Try.prog 137 = some [.int .u64 0] := by kernel_rfl
theorem ty_u137 : Try.prog.underlying 137 = some (.int .u64) := by kernel_rfl
theorem cf93 : CallsTo Try.prog 93 := callsTo Try.func93 (by kernel_rfl) (by kernel_rfl)
theorem cf95 : CallsTo Try.prog 95 := callsTo Try.func95 (by kernel_rfl) (by kernel_rfl)
theorem cf96 : CallsTo Try.prog 96 := callsTo Try.func96 (by kernel_rfl) (by kernel_rfl)
theorem cf97 : CallsTo Try.prog 97 := callsTo Try.func97 (by kernel_rfl) (by kernel_rfl)
theorem ty_fo26_1 : fieldOff Try.prog 26 1 = some 1 := by kernel_rfl
theorem ty_ft26_1 : fieldTy Try.prog 26 1 = some 3 := by kernel_rfl
theorem ty_sz141 : szOf Try.prog 141 = some 1 := by kernel_rfl
theorem ty_sc141 : scalarT Try.prog 141 = true := by kernel_rfl
theorem ty_z141 : zeroOf Try.prog 141 = some [.slice none 0 0] := by kernel_rfl
theorem ty_sl141 : sliceT Try.prog 141 = some 60 := by kernel_rfl
theorem ty_by60 : byOf Try.prog 60 = some 16 := by kernel_rfl
theorem cf98 : CallsTo Try.prog 98 := callsTo Try.func98 (by kernel_rfl) (by kernel_rfl)
theorem cf100 : CallsTo Try.prog 100 := callsTo Try.func100 (by kernel_rfl) (by kernel_rfl)
theorem ty_sz143 : szOf Try.prog 143 = some 1 := by kernel_rfl
theorem ty_sc143 : scalarT Try.prog 143 = true := by kernel_rfl
theorem ty_z143 : zeroOf Try.prog 143 = some [.map none] := by kernel_rfl
theorem ty_mp143 : mapT Try.prog 143 = some (3, 142) := by kernel_rfl
theorem ty_sz142 : szOf Try.prog 142 = some 1 := by kernel_rfl
theorem ty_sc142 : scalarT Try.prog 142 = true := by kernel_rfl
theorem ty_z142 : zeroOf Try.prog 142 = some [.nilFunc] := by kernel_rfl
theorem cf101 : CallsTo Try.prog 101 := callsTo Try.func101 (by kernel_rfl) (by kernel_rfl)
theorem cf102 : CallsTo Try.prog 102 := callsTo Try.func102 (by kernel_rfl) (by kernel_rfl)
theorem ty_fo119_9 : fieldOff Try.prog 119 9 = some 9 := by kernel_rfl
theorem ty_ft119_9 : fieldTy Try.prog 119 9 = some 3 := by kernel_rfl
theorem ty_fo119_12 : fieldOff Try.prog 119 12 = some 12 := by kernel_rfl
theorem ty_ft119_12 : fieldTy Try.prog 119 12 = some 3 := by kernel_rfl
theorem ty_fo119_0 : fieldOff Try.prog 119 0 = some 0 := by kernel_rfl
theorem ty_ft119_0 : fieldTy Try.prog 119 0 = some 3 := by kernel_rfl
theorem cf103 : CallsTo Try.prog 103 := callsTo Try.func103 (by kernel_rfl) (by kernel_rfl)
theorem cf104 : CallsTo Try.prog 104 := callsTo Try.func104 (by kernel_rfl) (by kernel_rfl)
theorem cf105 : CallsTo Try.prog 105 := callsTo Try.func105 (by kernel_rfl) (by kernel_rfl)
theorem cf106 : CallsTo Try.prog 106 := callsTo Try.func106 (by kernel_rfl) (by kernel_rfl)
theorem ty_fo119_2 : fieldOff Try.prog 119 2 = some 2 := by kernel_rfl
theorem ty_ft119_2 : fieldTy Try.prog 119 2 = some 3 := by kernel_rfl
theorem ty_fo119_3 : fieldOff Try.prog 119 3 = some 3 := by kernel_rfl
theorem ty_ft119_3 : fieldTy Try.prog 119 3 = some 3 := by kernel_rfl
theorem ty_fo34_5 : fieldOff Try.prog 34 5 = some 5 := by kernel_rfl
theorem ty_ft34_5 : fieldTy Try.prog 34 5 = some 9 := by kernel_rfl
theorem ty_fo119_5 : fieldOff Try.prog 119 5 = some 5 := by kernel_rfl
theorem ty_ft119_5 : fieldTy Try.prog 119 5 = some 9 := by kernel_rfl
theorem ty_fo119_6 : fieldOff Try.prog 119 6 = some 6 := by kernel_rfl
theorem ty_ft119_6 : fieldTy Try.prog 119 6 = some 112 := by kernel_rfl
theorem cf107 : CallsTo Try.prog 107 := callsTo Try.func107 (by kernel_rfl) (by kernel_rfl)
theorem ty_fo119_1 : fieldOff Try.prog 119 1 = some 1 := by kernel_rfl
theorem ty_ft119_1 : fieldTy Try.prog 119 1 = some 3 := by kernel_rfl
theorem ty_fo119_7 : fieldOff Try.prog 119 7 = some 7 := by kernel_rfl
theorem ty_ft119_7 : fieldTy Try.prog 119 7 = some 3 := by kernel_rfl
theorem ty_fo119_8 : fieldOff Try.prog 119 8 = some 8 := by kernel_rfl
theorem ty_ft119_8 : fieldTy Try.prog 119 8 = some 3 := by kernel_rfl
theorem ty_fo119_10 : fieldOff Try.prog 119 10 = some 10 := by kernel_rfl
theorem ty_ft119_10 : fieldTy Try.prog 119 10 = some 3 := by kernel_rfl
theorem ty_fo119_11 : fieldOff Try.prog 119 11 = some 11 := by kernel_rfl
theorem ty_ft119_11 : fieldTy Try.prog 119 11 = some 3 := by kernel_rfl
theorem cf108 : CallsTo Try.prog 108 := callsTo Try.func108 (by kernel_rfl) (by kernel_rfl)
theorem ty_sz21 : szOf Try.prog 21 = some 1 := by kernel_rfl
theorem ty_sc21 : scalarT Try.prog 21 = true := by kernel_rfl
theorem ty_z21 : zeroOf Try.prog 21 = some [.int .i32 0] := by kernel_rfl
theorem ty_u21 : Try.prog.underlying 21 = some (.int .i32) := by kernel_rfl
theorem cf109 : CallsTo Try.prog 109 := callsTo Try.func109 (by kernel_rfl) (by kernel_rfl)
theorem cf110 : CallsTo Try.prog 110 := callsTo Try.func110 (by kernel_rfl) (by kernel_rfl)
theorem cf111 : CallsTo Try.prog 111 := callsTo Try.func111 (by kernel_rfl) (by kernel_rfl)
theorem cf112 : CallsTo Try.prog 112 := callsTo Try.func112 (by kernel_rfl) (by kernel_rfl)
theorem cf114 : CallsTo Try.prog 114 := callsTo Try.func114 (by kernel_rfl) (by kernel_rfl)
theorem ty_sz154 : szOf Try.prog 154 = some 1 := by kernel_rfl
theorem ty_sc154 : scalarT Try.prog 154 = true := by kernel_rfl
theorem ty_z154 : zeroOf Try.prog 154 = some [.slice none 0 0] := by kernel_rfl
theorem ty_sl154 : sliceT Try.prog 154 = some 158 := by kernel_rfl
theorem ty_sz158 : szOf Try.prog 158 = some 2 := by kernel_rfl
theorem ty_st158 : structT Try.prog 158 = true := by kernel_rfl
theorem ty_pl158 : placesOf Try.prog 158 = some [(0, 1), (1, 1)] := by kernel_rfl
theorem ty_z158 : zeroOf Try.prog 158 = some [.string ⟨#[]⟩, .int .i64 0] := by kernel_rfl
theorem ty_by158 : byOf Try.prog 158 = some 24 := by kernel_rfl
theorem ty_sz159 : szOf Try.prog 159 = some 1 := by kernel_rfl
theorem ty_sc159 : scalarT Try.prog 159 = true := by kernel_rfl
theorem ty_z159 : zeroOf Try.prog 159 = some [.nilFunc] := by kernel_rfl
theorem cf113 : CallsTo Try.prog 113 := callsTo Try.func113 (by kernel_rfl) (by kernel_rfl)
theorem ty_fo158_1 : fieldOff Try.prog 158 1 = some 1 := by kernel_rfl
theorem ty_ft158_1 : fieldTy Try.prog 158 1 = some 3 := by kernel_rfl
theorem cf99 : CallsTo Try.prog 99 := callsTo Try.func99 (by kernel_rfl) (by kernel_rfl)
theorem cf115 : CallsTo Try.prog 115 := callsTo Try.func115 (by kernel_rfl) (by kernel_rfl)
theorem cf116 : CallsTo Try.prog 116 := callsTo Try.func116 (by kernel_rfl) (by kernel_rfl)
theorem cf117 : CallsTo Try.prog 117 := callsTo Try.func117 (by kernel_rfl) (by kernel_rfl)
theorem cf118 : CallsTo Try.prog 118 := callsTo Try.func118 (by kernel_rfl) (by kernel_rfl)
theorem cf119 : CallsTo Try.prog 119 := callsTo Try.func119 (by kernel_rfl) (by kernel_rfl)
theorem ty_fo148_0 : fieldOff Try.prog 148 0 = some 0 := by kernel_rfl
theorem ty_ft148_0 : fieldTy Try.prog 148 0 = some 9 := by kernel_rfl
theorem ty_fo148_1 : fieldOff Try.prog 148 1 = some 1 := by kernel_rfl
theorem ty_ft148_1 : fieldTy Try.prog 148 1 = some 3 := by kernel_rfl
theorem ty_fo148_2 : fieldOff Try.prog 148 2 = some 2 := by kernel_rfl
theorem ty_ft148_2 : fieldTy Try.prog 148 2 = some 3 := by kernel_rfl
theorem ty_fo148_3 : fieldOff Try.prog 148 3 = some 3 := by kernel_rfl
theorem ty_ft148_3 : fieldTy Try.prog 148 3 = some 3 := by kernel_rfl
theorem cf120 : CallsTo Try.prog 120 := callsTo Try.func120 (by kernel_rfl) (by kernel_rfl)
theorem cf121 : CallsTo Try.prog 121 := callsTo Try.func121 (by kernel_rfl) (by kernel_rfl)
theorem cf122 : CallsTo Try.prog 122 := callsTo Try.func122 (by kernel_rfl) (by kernel_rfl)
theorem ty_sz164 : szOf Try.prog 164 = some 1 := by kernel_rfl
theorem ty_sc164 : scalarT Try.prog 164 = true := by kernel_rfl
theorem ty_z164 : zeroOf Try.prog 164 = some [.nilIface] := by kernel_rfl
theorem cf123 : CallsTo Try.prog 123 := callsTo Try.func123 (by kernel_rfl) (by kernel_rfl)
theorem ty_fo158_0 : fieldOff Try.prog 158 0 = some 0 := by kernel_rfl
theorem ty_ft158_0 : fieldTy Try.prog 158 0 = some 9 := by kernel_rfl
theorem cf124 : CallsTo Try.prog 124 := callsTo Try.func124 (by kernel_rfl) (by kernel_rfl)
theorem ty_sz166 : szOf Try.prog 166 = some 1 := by kernel_rfl
theorem ty_sc166 : scalarT Try.prog 166 = true := by kernel_rfl
theorem ty_z166 : zeroOf Try.prog 166 = some [.slice none 0 0] := by kernel_rfl
theorem ty_sl166 : sliceT Try.prog 166 = some 9 := by kernel_rfl
theorem ty_by9 : byOf Try.prog 9 = some 16 := by kernel_rfl
theorem cf125 : CallsTo Try.prog 125 := callsTo Try.func125 (by kernel_rfl) (by kernel_rfl)
end Go.Proofs.Ytfiaobhkhedpiaa
