/- Facts on the types and functions of this program, each by computation; the maps' zero values too. -/
import Derived.Test.YtheofhegdjjfgaaRows
import Derived.Test.YtheofhegdjjfgaaSe9
namespace Go.Proofs.Ytheofhegdjjfgaa
open Go.RowKit
theorem ty_sz24 : szOf Try.prog 24 = some 3 := by kernel_rfl
theorem ty_st24 : structT Try.prog 24 = true := by kernel_rfl
theorem ty_pl24 : placesOf Try.prog 24 = some [(0, 1), (1, 1), (2, 1)] := by kernel_rfl
theorem ty_z24 : zeroOf Try.prog 24 = some [.string ⟨#[]⟩, .int .i64 0, .int .i64 0] := by kernel_rfl
theorem cf12 : CallsTo Try.prog 12 := callsTo Try.func12 (by kernel_rfl) (by kernel_rfl)
theorem ty_sz22 : szOf Try.prog 22 = some 1 := by kernel_rfl
theorem ty_sc22 : scalarT Try.prog 22 = true := by kernel_rfl
theorem ty_z22 : zeroOf Try.prog 22 = some [.slice none 0 0] := by kernel_rfl
theorem ty_sl22 : sliceT Try.prog 22 = some 24 := by kernel_rfl
theorem ty_by24 : byOf Try.prog 24 = some 32 := by kernel_rfl
theorem cf13 : CallsTo Try.prog 13 := callsTo Try.func13 (by kernel_rfl) (by kernel_rfl)
theorem ty_sz4 : szOf Try.prog 4 = some 1 := by kernel_rfl
theorem ty_sc4 : scalarT Try.prog 4 = true := by kernel_rfl
theorem ty_z4 : zeroOf Try.prog 4 = some [.bool false] := by kernel_rfl
theorem ty_u4 : Try.prog.underlying 4 = some (.bool) := by kernel_rfl
theorem ty_sz3 : szOf Try.prog 3 = some 1 := by kernel_rfl
theorem ty_sc3 : scalarT Try.prog 3 = true := by kernel_rfl
theorem ty_z3 : zeroOf Try.prog 3 = some [.int .i64 0] := by kernel_rfl
theorem ty_u3 : Try.prog.underlying 3 = some (.int .i64) := by kernel_rfl
theorem cf14 : CallsTo Try.prog 14 := callsTo Try.func14 (by kernel_rfl) (by kernel_rfl)
theorem cf15 : CallsTo Try.prog 15 := callsTo Try.func15 (by kernel_rfl) (by kernel_rfl)
theorem ty_sz27 : szOf Try.prog 27 = some 1 := by kernel_rfl
theorem ty_sc27 : scalarT Try.prog 27 = true := by kernel_rfl
theorem ty_z27 : zeroOf Try.prog 27 = some [.int .i64 0] := by kernel_rfl
theorem ty_u27 : Try.prog.underlying 27 = some (.int .i64) := by kernel_rfl
theorem cf16 : CallsTo Try.prog 16 := callsTo Try.func16 (by kernel_rfl) (by kernel_rfl)
theorem cf17 : CallsTo Try.prog 17 := callsTo Try.func17 (by kernel_rfl) (by kernel_rfl)
theorem ty_sz32 : szOf Try.prog 32 = some 1 := by kernel_rfl
theorem ty_sc32 : scalarT Try.prog 32 = true := by kernel_rfl
theorem ty_z32 : zeroOf Try.prog 32 = some [.pointer none] := by kernel_rfl
theorem ty_u32 : Try.prog.underlying 32 = some (.pointer (Try.prog.pointee 32)) := by kernel_rfl
theorem ty_sz9 : szOf Try.prog 9 = some 1 := by kernel_rfl
theorem ty_sc9 : scalarT Try.prog 9 = true := by kernel_rfl
theorem ty_z9 : zeroOf Try.prog 9 = some [.string ⟨#[]⟩] := by kernel_rfl
theorem ty_u9 : Try.prog.underlying 9 = some (.string) := by kernel_rfl
theorem ty_fo24_0 : fieldOff Try.prog 24 0 = some 0 := by kernel_rfl
theorem ty_ft24_0 : fieldTy Try.prog 24 0 = some 9 := by kernel_rfl
theorem cf18 : CallsTo Try.prog 18 := callsTo Try.func18 (by kernel_rfl) (by kernel_rfl)
theorem ty_fo24_1 : fieldOff Try.prog 24 1 = some 1 := by kernel_rfl
theorem ty_ft24_1 : fieldTy Try.prog 24 1 = some 3 := by kernel_rfl
theorem ty_fo24_2 : fieldOff Try.prog 24 2 = some 2 := by kernel_rfl
theorem ty_ft24_2 : fieldTy Try.prog 24 2 = some 3 := by kernel_rfl
theorem cf19 : CallsTo Try.prog 19 := callsTo Try.func19 (by kernel_rfl) (by kernel_rfl)
theorem ty_sz41 : szOf Try.prog 41 = some 2 := by kernel_rfl
theorem ty_st41 : structT Try.prog 41 = true := by kernel_rfl
theorem ty_pl41 : placesOf Try.prog 41 = some [(0, 1), (1, 1)] := by kernel_rfl
theorem ty_z41 : zeroOf Try.prog 41 = some [.int .i64 0, .string ⟨#[]⟩] := by kernel_rfl
theorem cf20 : CallsTo Try.prog 20 := callsTo Try.func20 (by kernel_rfl) (by kernel_rfl)
theorem cf22 : CallsTo Try.prog 22 := callsTo Try.func22 (by kernel_rfl) (by kernel_rfl)
theorem ty_sz44 : szOf Try.prog 44 = some 2 := by kernel_rfl
theorem ty_st44 : structT Try.prog 44 = true := by kernel_rfl
theorem ty_pl44 : placesOf Try.prog 44 = some [(0, 1), (1, 1)] := by kernel_rfl
theorem ty_z44 : zeroOf Try.prog 44 = some [.bool false, .slice none 0 0] := by kernel_rfl
theorem cf23 : CallsTo Try.prog 23 := callsTo Try.func23 (by kernel_rfl) (by kernel_rfl)
theorem cf21 : CallsTo Try.prog 21 := callsTo Try.func21 (by kernel_rfl) (by kernel_rfl)
theorem cf24 : CallsTo Try.prog 24 := callsTo Try.func24 (by kernel_rfl) (by kernel_rfl)
theorem cf25 : CallsTo Try.prog 25 := callsTo Try.func25 (by kernel_rfl) (by kernel_rfl)
theorem ty_sz50 : szOf Try.prog 50 = some 1 := by kernel_rfl
theorem ty_sc50 : scalarT Try.prog 50 = true := by kernel_rfl
theorem ty_z50 : zeroOf Try.prog 50 = some [.slice none 0 0] := by kernel_rfl
theorem ty_sl50 : sliceT Try.prog 50 = some 72 := by kernel_rfl
theorem ty_sz72 : szOf Try.prog 72 = some 8 := by kernel_rfl
theorem ty_st72 : structT Try.prog 72 = true := by kernel_rfl
theorem ty_pl72 : placesOf Try.prog 72 = some [(0, 1), (1, 1), (2, 4), (6, 1), (7, 1)] := by kernel_rfl
theorem ty_z72 : zeroOf Try.prog 72 = some [.int .i64 0, .int .i64 0, .string ⟨#[]⟩, .string ⟨#[]⟩, .int .i64 0, .bool false, .string ⟨#[]⟩, .slice none 0 0] := by kernel_rfl
theorem ty_by72 : byOf Try.prog 72 = some 104 := by kernel_rfl
theorem cf26 : CallsTo Try.prog 26 := callsTo Try.func26 (by kernel_rfl) (by kernel_rfl)
theorem cf27 : CallsTo Try.prog 27 := callsTo Try.func27 (by kernel_rfl) (by kernel_rfl)
theorem ty_sz52 : szOf Try.prog 52 = some 1 := by kernel_rfl
theorem ty_sc52 : scalarT Try.prog 52 = true := by kernel_rfl
theorem ty_z52 : zeroOf Try.prog 52 = some [.pointer none] := by kernel_rfl
theorem ty_u52 : Try.prog.underlying 52 = some (.pointer (Try.prog.pointee 52)) := by kernel_rfl
theorem cf28 : CallsTo Try.prog 28 := callsTo Try.func28 (by kernel_rfl) (by kernel_rfl)
theorem ty_sz54 : szOf Try.prog 54 = some 1 := by kernel_rfl
theorem ty_sc54 : scalarT Try.prog 54 = true := by kernel_rfl
theorem ty_z54 : zeroOf Try.prog 54 = some [.slice none 0 0] := by kernel_rfl
theorem ty_sl54 : sliceT Try.prog 54 = some 58 := by kernel_rfl
theorem ty_sz58 : szOf Try.prog 58 = some 4 := by kernel_rfl
theorem ty_st58 : structT Try.prog 58 = true := by kernel_rfl
theorem ty_pl58 : placesOf Try.prog 58 = some [(0, 1), (1, 1), (2, 1), (3, 1)] := by kernel_rfl
theorem ty_z58 : zeroOf Try.prog 58 = some [.int .i64 0, .int .i64 0, .string ⟨#[]⟩, .slice none 0 0] := by kernel_rfl
theorem ty_by58 : byOf Try.prog 58 = some 56 := by kernel_rfl
theorem ty_fo58_0 : fieldOff Try.prog 58 0 = some 0 := by kernel_rfl
theorem ty_ft58_0 : fieldTy Try.prog 58 0 = some 3 := by kernel_rfl
theorem ty_fo58_1 : fieldOff Try.prog 58 1 = some 1 := by kernel_rfl
theorem ty_ft58_1 : fieldTy Try.prog 58 1 = some 3 := by kernel_rfl
theorem cf29 : CallsTo Try.prog 29 := callsTo Try.func29 (by kernel_rfl) (by kernel_rfl)
theorem ty_sz60 : szOf Try.prog 60 = some 3 := by kernel_rfl
theorem ty_st60 : structT Try.prog 60 = true := by kernel_rfl
theorem ty_pl60 : placesOf Try.prog 60 = some [(0, 1), (1, 1), (2, 1)] := by kernel_rfl
theorem ty_z60 : zeroOf Try.prog 60 = some [.string ⟨#[]⟩, .int .i64 0, .int .i64 0] := by kernel_rfl
theorem ty_fo60_1 : fieldOff Try.prog 60 1 = some 1 := by kernel_rfl
theorem ty_ft60_1 : fieldTy Try.prog 60 1 = some 3 := by kernel_rfl
theorem ty_fo60_2 : fieldOff Try.prog 60 2 = some 2 := by kernel_rfl
theorem ty_ft60_2 : fieldTy Try.prog 60 2 = some 3 := by kernel_rfl
theorem ty_sz56 : szOf Try.prog 56 = some 1 := by kernel_rfl
theorem ty_sc56 : scalarT Try.prog 56 = true := by kernel_rfl
theorem ty_z56 : zeroOf Try.prog 56 = some [.slice none 0 0] := by kernel_rfl
theorem ty_sl56 : sliceT Try.prog 56 = some 63 := by kernel_rfl
theorem ty_sz63 : szOf Try.prog 63 = some 3 := by kernel_rfl
theorem ty_st63 : structT Try.prog 63 = true := by kernel_rfl
theorem ty_pl63 : placesOf Try.prog 63 = some [(0, 1), (1, 1), (2, 1)] := by kernel_rfl
theorem ty_z63 : zeroOf Try.prog 63 = some [.string ⟨#[]⟩, .int .i64 0, .int .i64 0] := by kernel_rfl
theorem ty_by63 : byOf Try.prog 63 = some 32 := by kernel_rfl
theorem ty_fo58_3 : fieldOff Try.prog 58 3 = some 3 := by kernel_rfl
theorem ty_ft58_3 : fieldTy Try.prog 58 3 = some 56 := by kernel_rfl
theorem ty_fo63_0 : fieldOff Try.prog 63 0 = some 0 := by kernel_rfl
theorem ty_ft63_0 : fieldTy Try.prog 63 0 = some 9 := by kernel_rfl
theorem ty_fo63_1 : fieldOff Try.prog 63 1 = some 1 := by kernel_rfl
theorem ty_ft63_1 : fieldTy Try.prog 63 1 = some 3 := by kernel_rfl
theorem ty_fo63_2 : fieldOff Try.prog 63 2 = some 2 := by kernel_rfl
theorem ty_ft63_2 : fieldTy Try.prog 63 2 = some 3 := by kernel_rfl
theorem cf30 : CallsTo Try.prog 30 := callsTo Try.func30 (by kernel_rfl) (by kernel_rfl)
theorem ty_sz65 : szOf Try.prog 65 = some 1 := by kernel_rfl
theorem ty_sc65 : scalarT Try.prog 65 = true := by kernel_rfl
theorem ty_z65 : zeroOf Try.prog 65 = some [.slice none 0 0] := by kernel_rfl
theorem ty_sl65 : sliceT Try.prog 65 = some 68 := by kernel_rfl
theorem ty_sz68 : szOf Try.prog 68 = some 4 := by kernel_rfl
theorem ty_st68 : structT Try.prog 68 = true := by kernel_rfl
theorem ty_pl68 : placesOf Try.prog 68 = some [(0, 1), (1, 1), (2, 1), (3, 1)] := by kernel_rfl
theorem ty_z68 : zeroOf Try.prog 68 = some [.string ⟨#[]⟩, .string ⟨#[]⟩, .int .i64 0, .bool false] := by kernel_rfl
theorem ty_by68 : byOf Try.prog 68 = some 48 := by kernel_rfl
theorem ty_fo68_0 : fieldOff Try.prog 68 0 = some 0 := by kernel_rfl
theorem ty_ft68_0 : fieldTy Try.prog 68 0 = some 9 := by kernel_rfl
theorem cf31 : CallsTo Try.prog 31 := callsTo Try.func31 (by kernel_rfl) (by kernel_rfl)
theorem ty_fo72_0 : fieldOff Try.prog 72 0 = some 0 := by kernel_rfl
theorem ty_ft72_0 : fieldTy Try.prog 72 0 = some 3 := by kernel_rfl
theorem ty_fo72_1 : fieldOff Try.prog 72 1 = some 1 := by kernel_rfl
theorem ty_ft72_1 : fieldTy Try.prog 72 1 = some 3 := by kernel_rfl
theorem ty_fo72_3 : fieldOff Try.prog 72 3 = some 6 := by kernel_rfl
theorem ty_ft72_3 : fieldTy Try.prog 72 3 = some 9 := by kernel_rfl
theorem ty_fo72_4 : fieldOff Try.prog 72 4 = some 7 := by kernel_rfl
theorem ty_ft72_4 : fieldTy Try.prog 72 4 = some 56 := by kernel_rfl
theorem cf32 : CallsTo Try.prog 32 := callsTo Try.func32 (by kernel_rfl) (by kernel_rfl)
theorem cf33 : CallsTo Try.prog 33 := callsTo Try.func33 (by kernel_rfl) (by kernel_rfl)
theorem cf34 : CallsTo Try.prog 34 := callsTo Try.func34 (by kernel_rfl) (by kernel_rfl)
theorem cf35 : CallsTo Try.prog 35 := callsTo Try.func35 (by kernel_rfl) (by kernel_rfl)
theorem ty_sz76 : szOf Try.prog 76 = some 1 := by kernel_rfl
theorem ty_sc76 : scalarT Try.prog 76 = true := by kernel_rfl
theorem ty_z76 : zeroOf Try.prog 76 = some [.slice none 0 0] := by kernel_rfl
theorem ty_sl76 : sliceT Try.prog 76 = some 60 := by kernel_rfl
theorem ty_by60 : byOf Try.prog 60 = some 32 := by kernel_rfl
theorem ty_fo41_1 : fieldOff Try.prog 41 1 = some 1 := by kernel_rfl
theorem ty_ft41_1 : fieldTy Try.prog 41 1 = some 9 := by kernel_rfl
theorem cf36 : CallsTo Try.prog 36 := callsTo Try.func36 (by kernel_rfl) (by kernel_rfl)
theorem cf37 : CallsTo Try.prog 37 := callsTo Try.func37 (by kernel_rfl) (by kernel_rfl)
theorem cf38 : CallsTo Try.prog 38 := callsTo Try.func38 (by kernel_rfl) (by kernel_rfl)
theorem ty_sz86 : szOf Try.prog 86 = some 2 := by kernel_rfl
theorem ty_st86 : structT Try.prog 86 = true := by kernel_rfl
theorem ty_pl86 : placesOf Try.prog 86 = some [(0, 1), (1, 1)] := by kernel_rfl
theorem ty_z86 : zeroOf Try.prog 86 = some [.string ⟨#[]⟩, .slice none 0 0] := by kernel_rfl
theorem ty_sz33 : szOf Try.prog 33 = some 1 := by kernel_rfl
theorem ty_sc33 : scalarT Try.prog 33 = true := by kernel_rfl
theorem ty_z33 : zeroOf Try.prog 33 = some [.pointer none] := by kernel_rfl
theorem ty_u33 : Try.prog.underlying 33 = some (.pointer (Try.prog.pointee 33)) := by kernel_rfl
theorem cf39 : CallsTo Try.prog 39 := callsTo Try.func39 (by kernel_rfl) (by kernel_rfl)
theorem cf40 : CallsTo Try.prog 40 := callsTo Try.func40 (by kernel_rfl) (by kernel_rfl)
theorem ty_fo41_0 : fieldOff Try.prog 41 0 = some 0 := by kernel_rfl
theorem ty_ft41_0 : fieldTy Try.prog 41 0 = some 3 := by kernel_rfl
theorem ty_sz90 : szOf Try.prog 90 = some 2 := by kernel_rfl
theorem ty_st90 : structT Try.prog 90 = true := by kernel_rfl
theorem ty_pl90 : placesOf Try.prog 90 = some [(0, 1), (1, 1)] := by kernel_rfl
theorem ty_z90 : zeroOf Try.prog 90 = some [.int .i64 0, .string ⟨#[]⟩] := by kernel_rfl
theorem cf41 : CallsTo Try.prog 41 := callsTo Try.func41 (by kernel_rfl) (by kernel_rfl)
theorem cf42 : CallsTo Try.prog 42 := callsTo Try.func42 (by kernel_rfl) (by kernel_rfl)
theorem ty_sz91 : szOf Try.prog 91 = some 1 := by kernel_rfl
theorem ty_sc91 : scalarT Try.prog 91 = true := by kernel_rfl
theorem ty_z91 : zeroOf Try.prog 91 = some [.slice none 0 0] := by kernel_rfl
theorem ty_sl91 : sliceT Try.prog 91 = some 93 := by kernel_rfl
theorem ty_sz93 : szOf Try.prog 93 = some 3 := by kernel_rfl
theorem ty_st93 : structT Try.prog 93 = true := by kernel_rfl
theorem ty_pl93 : placesOf Try.prog 93 = some [(0, 1), (1, 1), (2, 1)] := by kernel_rfl
theorem ty_z93 : zeroOf Try.prog 93 = some [.string ⟨#[]⟩, .int .i64 0, .int .i64 0] := by kernel_rfl
theorem ty_by93 : byOf Try.prog 93 = some 32 := by kernel_rfl
theorem ty_sz84 : szOf Try.prog 84 = some 1 := by kernel_rfl
theorem ty_sc84 : scalarT Try.prog 84 = true := by kernel_rfl
theorem ty_z84 : zeroOf Try.prog 84 = some [.slice none 0 0] := by kernel_rfl
theorem ty_sl84 : sliceT Try.prog 84 = some 94 := by kernel_rfl
theorem ty_sz94 : szOf Try.prog 94 = some 3 := by kernel_rfl
theorem ty_st94 : structT Try.prog 94 = true := by kernel_rfl
theorem ty_pl94 : placesOf Try.prog 94 = some [(0, 1), (1, 1), (2, 1)] := by kernel_rfl
theorem ty_z94 : zeroOf Try.prog 94 = some [.string ⟨#[]⟩, .int .i64 0, .int .i64 0] := by kernel_rfl
theorem ty_by94 : byOf Try.prog 94 = some 32 := by kernel_rfl
theorem ty_fo86_1 : fieldOff Try.prog 86 1 = some 1 := by kernel_rfl
theorem ty_ft86_1 : fieldTy Try.prog 86 1 = some 84 := by kernel_rfl
theorem ty_fo93_0 : fieldOff Try.prog 93 0 = some 0 := by kernel_rfl
theorem ty_ft93_0 : fieldTy Try.prog 93 0 = some 9 := by kernel_rfl
theorem ty_fo94_0 : fieldOff Try.prog 94 0 = some 0 := by kernel_rfl
theorem ty_ft94_0 : fieldTy Try.prog 94 0 = some 9 := by kernel_rfl
theorem ty_fo93_1 : fieldOff Try.prog 93 1 = some 1 := by kernel_rfl
theorem ty_ft93_1 : fieldTy Try.prog 93 1 = some 3 := by kernel_rfl
theorem ty_fo94_1 : fieldOff Try.prog 94 1 = some 1 := by kernel_rfl
theorem ty_ft94_1 : fieldTy Try.prog 94 1 = some 3 := by kernel_rfl
theorem ty_fo93_2 : fieldOff Try.prog 93 2 = some 2 := by kernel_rfl
theorem ty_ft93_2 : fieldTy Try.prog 93 2 = some 3 := by kernel_rfl
theorem ty_fo94_2 : fieldOff Try.prog 94 2 = some 2 := by kernel_rfl
theorem ty_ft94_2 : fieldTy Try.prog 94 2 = some 3 := by kernel_rfl
theorem cf43 : CallsTo Try.prog 43 := callsTo Try.func43 (by kernel_rfl) (by kernel_rfl)
theorem ty_fo72_2 : fieldOff Try.prog 72 2 = some 2 := by kernel_rfl
theorem ty_ft72_2 : fieldTy Try.prog 72 2 = some 68 := by kernel_rfl
theorem cf44 : CallsTo Try.prog 44 := callsTo Try.func44 (by kernel_rfl) (by kernel_rfl)
theorem cf45 : CallsTo Try.prog 45 := callsTo Try.func45 (by kernel_rfl) (by kernel_rfl)
theorem cf46 : CallsTo Try.prog 46 := callsTo Try.func46 (by kernel_rfl) (by kernel_rfl)
theorem ty_fo58_2 : fieldOff Try.prog 58 2 = some 2 := by kernel_rfl
theorem ty_ft58_2 : fieldTy Try.prog 58 2 = some 9 := by kernel_rfl
theorem cf48 : CallsTo Try.prog 48 := callsTo Try.func48 (by kernel_rfl) (by kernel_rfl)
theorem ty_sz101 : szOf Try.prog 101 = some 1 := by kernel_rfl
theorem ty_sc101 : scalarT Try.prog 101 = true := by kernel_rfl
theorem ty_z101 : zeroOf Try.prog 101 = some [.slice none 0 0] := by kernel_rfl
theorem ty_sl101 : sliceT Try.prog 101 = some 157 := by kernel_rfl
theorem ty_sz157 : szOf Try.prog 157 = some 3 := by kernel_rfl
theorem ty_st157 : structT Try.prog 157 = true := by kernel_rfl
theorem ty_pl157 : placesOf Try.prog 157 = some [(0, 1), (1, 1), (2, 1)] := by kernel_rfl
theorem ty_z157 : zeroOf Try.prog 157 = some [.string ⟨#[]⟩, .int .i64 0, .int .i64 0] := by kernel_rfl
theorem ty_by157 : byOf Try.prog 157 = some 32 := by kernel_rfl
theorem cf47 : CallsTo Try.prog 47 := callsTo Try.func47 (by kernel_rfl) (by kernel_rfl)
theorem ty_fo60_0 : fieldOff Try.prog 60 0 = some 0 := by kernel_rfl
theorem ty_ft60_0 : fieldTy Try.prog 60 0 = some 9 := by kernel_rfl
theorem cf49 : CallsTo Try.prog 49 := callsTo Try.func49 (by kernel_rfl) (by kernel_rfl)
theorem cf50 : CallsTo Try.prog 50 := callsTo Try.func50 (by kernel_rfl) (by kernel_rfl)
theorem ty_sz106 : szOf Try.prog 106 = some 2 := by kernel_rfl
theorem ty_st106 : structT Try.prog 106 = true := by kernel_rfl
theorem ty_pl106 : placesOf Try.prog 106 = some [(0, 1), (1, 1)] := by kernel_rfl
theorem ty_z106 : zeroOf Try.prog 106 = some [.int .u64 0, .int .u64 0] := by kernel_rfl
theorem cf51 : CallsTo Try.prog 51 := callsTo Try.func51 (by kernel_rfl) (by kernel_rfl)
theorem cf52 : CallsTo Try.prog 52 := callsTo Try.func52 (by kernel_rfl) (by kernel_rfl)
theorem cf53 : CallsTo Try.prog 53 := callsTo Try.func53 (by kernel_rfl) (by kernel_rfl)
theorem ty_sz114 : szOf Try.prog 114 = some 3 := by kernel_rfl
theorem ty_st114 : structT Try.prog 114 = true := by kernel_rfl
theorem ty_pl114 : placesOf Try.prog 114 = some [(0, 1), (1, 1), (2, 1)] := by kernel_rfl
theorem ty_z114 : zeroOf Try.prog 114 = some [.string ⟨#[]⟩, .map none, .int .i64 0] := by kernel_rfl
theorem ty_fo114_0 : fieldOff Try.prog 114 0 = some 0 := by kernel_rfl
theorem ty_ft114_0 : fieldTy Try.prog 114 0 = some 9 := by kernel_rfl
theorem ty_sz112 : szOf Try.prog 112 = some 1 := by kernel_rfl
theorem ty_sc112 : scalarT Try.prog 112 = true := by kernel_rfl
theorem ty_z112 : zeroOf Try.prog 112 = some [.map none] := by kernel_rfl
theorem ty_mp112 : mapT Try.prog 112 = some (9, 91) := by kernel_rfl
theorem ty_zv91 : zvOf Try.prog 91 = some (.slice none 0 0) := by kernel_rfl
theorem ty_fo114_1 : fieldOff Try.prog 114 1 = some 1 := by kernel_rfl
theorem ty_ft114_1 : fieldTy Try.prog 114 1 = some 112 := by kernel_rfl
theorem cf54 : CallsTo Try.prog 54 := callsTo Try.func54 (by kernel_rfl) (by kernel_rfl)
theorem ty_fo114_2 : fieldOff Try.prog 114 2 = some 2 := by kernel_rfl
theorem ty_ft114_2 : fieldTy Try.prog 114 2 = some 3 := by kernel_rfl
theorem cf55 : CallsTo Try.prog 55 := callsTo Try.func55 (by kernel_rfl) (by kernel_rfl)
theorem cf56 : CallsTo Try.prog 56 := callsTo Try.func56 (by kernel_rfl) (by kernel_rfl)
theorem ty_sz42 : szOf Try.prog 42 = some 1 := by kernel_rfl
theorem ty_sc42 : scalarT Try.prog 42 = true := by kernel_rfl
theorem ty_z42 : zeroOf Try.prog 42 = some [.slice none 0 0] := by kernel_rfl
theorem ty_sl42 : sliceT Try.prog 42 = some 3 := by kernel_rfl
theorem ty_by3 : byOf Try.prog 3 = some 8 := by kernel_rfl
theorem cf57 : CallsTo Try.prog 57 := callsTo Try.func57 (by kernel_rfl) (by kernel_rfl)
theorem ty_fo44_0 : fieldOff Try.prog 44 0 = some 0 := by kernel_rfl
theorem ty_ft44_0 : fieldTy Try.prog 44 0 = some 4 := by kernel_rfl
theorem ty_fo44_1 : fieldOff Try.prog 44 1 = some 1 := by kernel_rfl
theorem ty_ft44_1 : fieldTy Try.prog 44 1 = some 42 := by kernel_rfl
theorem cf58 : CallsTo Try.prog 58 := callsTo Try.func58 (by kernel_rfl) (by kernel_rfl)
theorem cf59 : CallsTo Try.prog 59 := callsTo Try.func59 (by kernel_rfl) (by kernel_rfl)
theorem cf60 : CallsTo Try.prog 60 := callsTo Try.func60 (by kernel_rfl) (by kernel_rfl)
theorem cf61 : CallsTo Try.prog 61 := callsTo Try.func61 (by kernel_rfl) (by kernel_rfl)
theorem cf62 : CallsTo Try.prog 62 := callsTo Try.func62 (by kernel_rfl) (by kernel_rfl)
theorem ty_fo68_1 : fieldOff Try.prog 68 1 = some 1 := by kernel_rfl
theorem ty_ft68_1 : fieldTy Try.prog 68 1 = some 9 := by kernel_rfl
theorem ty_sz129 : szOf Try.prog 129 = some 5 := by kernel_rfl
theorem ty_st129 : structT Try.prog 129 = true := by kernel_rfl
theorem ty_pl129 : placesOf Try.prog 129 = some [(0, 1), (1, 1), (2, 1), (3, 1), (4, 1)] := by kernel_rfl
theorem ty_z129 : zeroOf Try.prog 129 = some [.string ⟨#[]⟩, .map none, .slice none 0 0, .map none, .int .i64 0] := by kernel_rfl
theorem ty_fo129_2 : fieldOff Try.prog 129 2 = some 2 := by kernel_rfl
theorem ty_ft129_2 : fieldTy Try.prog 129 2 = some 54 := by kernel_rfl
theorem cf63 : CallsTo Try.prog 63 := callsTo Try.func63 (by kernel_rfl) (by kernel_rfl)
theorem ty_sz133 : szOf Try.prog 133 = some 1 := by kernel_rfl
theorem ty_sc133 : scalarT Try.prog 133 = true := by kernel_rfl
theorem ty_z133 : zeroOf Try.prog 133 = some [.nilFunc] := by kernel_rfl
theorem cf64 : CallsTo Try.prog 64 := callsTo Try.func64 (by kernel_rfl) (by kernel_rfl)
theorem cf65 : CallsTo Try.prog 65 := callsTo Try.func65 (by kernel_rfl) (by kernel_rfl)
theorem ty_sz126 : szOf Try.prog 126 = some 1 := by kernel_rfl
theorem ty_sc126 : scalarT Try.prog 126 = true := by kernel_rfl
theorem ty_z126 : zeroOf Try.prog 126 = some [.map none] := by kernel_rfl
theorem ty_mp126 : mapT Try.prog 126 = some (9, 68) := by kernel_rfl
theorem ty_zv68 : zvOf Try.prog 68 = some (.agg #[.string ⟨#[]⟩, .string ⟨#[]⟩, .int .i64 0, .bool false]) := by kernel_rfl
theorem ty_fo129_1 : fieldOff Try.prog 129 1 = some 1 := by kernel_rfl
theorem ty_ft129_1 : fieldTy Try.prog 129 1 = some 126 := by kernel_rfl
theorem cf67 : CallsTo Try.prog 67 := callsTo Try.func67 (by kernel_rfl) (by kernel_rfl)
theorem ty_sz136 : szOf Try.prog 136 = some 4 := by kernel_rfl
theorem ty_st136 : structT Try.prog 136 = true := by kernel_rfl
theorem ty_pl136 : placesOf Try.prog 136 = some [(0, 2), (2, 2)] := by kernel_rfl
theorem ty_z136 : zeroOf Try.prog 136 = some [.int .u64 0, .int .u64 0, .int .u64 0, .int .u64 0] := by kernel_rfl
theorem cf69 : CallsTo Try.prog 69 := callsTo Try.func69 (by kernel_rfl) (by kernel_rfl)
theorem ty_sz139 : szOf Try.prog 139 = some 1 := by kernel_rfl
theorem ty_sc139 : scalarT Try.prog 139 = true := by kernel_rfl
theorem ty_z139 : zeroOf Try.prog 139 = some [.nilFunc] := by kernel_rfl
theorem cf68 : CallsTo Try.prog 68 := callsTo Try.func68 (by kernel_rfl) (by kernel_rfl)
theorem cf71 : CallsTo Try.prog 71 := callsTo Try.func71 (by kernel_rfl) (by kernel_rfl)
theorem cf73 : CallsTo Try.prog 73 := callsTo Try.func73 (by kernel_rfl) (by kernel_rfl)
theorem ty_sz145 : szOf Try.prog 145 = some 1 := by kernel_rfl
theorem ty_sc145 : scalarT Try.prog 145 = true := by kernel_rfl
theorem ty_z145 : zeroOf Try.prog 145 = some [.nilFunc] := by kernel_rfl
theorem cf72 : CallsTo Try.prog 72 := callsTo Try.func72 (by kernel_rfl) (by kernel_rfl)
theorem ty_sz142 : szOf Try.prog 142 = some 1 := by kernel_rfl
theorem ty_sc142 : scalarT Try.prog 142 = true := by kernel_rfl
theorem ty_z142 : zeroOf Try.prog 142 = some [.slice none 0 0] := by kernel_rfl
theorem ty_sl142 : sliceT Try.prog 142 = some 9 := by kernel_rfl
theorem ty_by9 : byOf Try.prog 9 = some 16 := by kernel_rfl
theorem ty_sz127 : szOf Try.prog 127 = some 1 := by kernel_rfl
theorem ty_sc127 : scalarT Try.prog 127 = true := by kernel_rfl
theorem ty_z127 : zeroOf Try.prog 127 = some [.map none] := by kernel_rfl
theorem ty_mp127 : mapT Try.prog 127 = some (9, 136) := by kernel_rfl
theorem ty_zv136 : zvOf Try.prog 136 = some (.agg #[.int .u64 0, .int .u64 0, .int .u64 0, .int .u64 0]) := by kernel_rfl
theorem ty_fo129_3 : fieldOff Try.prog 129 3 = some 3 := by kernel_rfl
theorem ty_ft129_3 : fieldTy Try.prog 129 3 = some 127 := by kernel_rfl
theorem cf70 : CallsTo Try.prog 70 := callsTo Try.func70 (by kernel_rfl) (by kernel_rfl)
theorem cf74 : CallsTo Try.prog 74 := callsTo Try.func74 (by kernel_rfl) (by kernel_rfl)
theorem ty_fo129_4 : fieldOff Try.prog 129 4 = some 4 := by kernel_rfl
theorem ty_ft129_4 : fieldTy Try.prog 129 4 = some 3 := by kernel_rfl
theorem cf75 : CallsTo Try.prog 75 := callsTo Try.func75 (by kernel_rfl) (by kernel_rfl)
theorem cf76 : CallsTo Try.prog 76 := callsTo Try.func76 (by kernel_rfl) (by kernel_rfl)
theorem cf77 : CallsTo Try.prog 77 := callsTo Try.func77 (by kernel_rfl) (by kernel_rfl)
theorem cf78 : CallsTo Try.prog 78 := callsTo Try.func78 (by kernel_rfl) (by kernel_rfl)
theorem cf79 : CallsTo Try.prog 79 := callsTo Try.func79 (by kernel_rfl) (by kernel_rfl)
theorem cf80 : CallsTo Try.prog 80 := callsTo Try.func80 (by kernel_rfl) (by kernel_rfl)
theorem ty_fo86_0 : fieldOff Try.prog 86 0 = some 0 := by kernel_rfl
theorem ty_ft86_0 : fieldTy Try.prog 86 0 = some 9 := by kernel_rfl
theorem cf81 : CallsTo Try.prog 81 := callsTo Try.func81 (by kernel_rfl) (by kernel_rfl)
theorem cf82 : CallsTo Try.prog 82 := callsTo Try.func82 (by kernel_rfl) (by kernel_rfl)
theorem ty_fo90_1 : fieldOff Try.prog 90 1 = some 1 := by kernel_rfl
theorem ty_ft90_1 : fieldTy Try.prog 90 1 = some 9 := by kernel_rfl
theorem ty_fo90_0 : fieldOff Try.prog 90 0 = some 0 := by kernel_rfl
theorem ty_ft90_0 : fieldTy Try.prog 90 0 = some 3 := by kernel_rfl
theorem cf83 : CallsTo Try.prog 83 := callsTo Try.func83 (by kernel_rfl) (by kernel_rfl)
theorem cf84 : CallsTo Try.prog 84 := callsTo Try.func84 (by kernel_rfl) (by kernel_rfl)
theorem ty_fo68_2 : fieldOff Try.prog 68 2 = some 2 := by kernel_rfl
theorem ty_ft68_2 : fieldTy Try.prog 68 2 = some 3 := by kernel_rfl
theorem ty_fo157_0 : fieldOff Try.prog 157 0 = some 0 := by kernel_rfl
theorem ty_ft157_0 : fieldTy Try.prog 157 0 = some 9 := by kernel_rfl
theorem ty_fo157_1 : fieldOff Try.prog 157 1 = some 1 := by kernel_rfl
theorem ty_ft157_1 : fieldTy Try.prog 157 1 = some 3 := by kernel_rfl
theorem ty_fo157_2 : fieldOff Try.prog 157 2 = some 2 := by kernel_rfl
theorem ty_ft157_2 : fieldTy Try.prog 157 2 = some 3 := by kernel_rfl
theorem cf86 : CallsTo Try.prog 86 := callsTo Try.func86 (by kernel_rfl) (by kernel_rfl)
theorem ty_sz104 : szOf Try.prog 104 = some 1 := by kernel_rfl
theorem ty_sc104 : scalarT Try.prog 104 = true := by kernel_rfl
theorem ty_z104 : zeroOf Try.prog 104 = some [.int .u64 0] := by kernel_rfl
theorem ty_u104 : Try.prog.underlying 104 = some (.int .u64) := by kernel_rfl
theorem cf85 : CallsTo Try.prog 85 := callsTo Try.func85 (by kernel_rfl) (by kernel_rfl)
theorem ty_sz162 : szOf Try.prog 162 = some 2 := by kernel_rfl
theorem ty_st162 : structT Try.prog 162 = true := by kernel_rfl
theorem ty_pl162 : placesOf Try.prog 162 = some [(0, 1), (1, 1)] := by kernel_rfl
theorem ty_z162 : zeroOf Try.prog 162 = some [.int .u64 0, .int .u64 0] := by kernel_rfl
theorem cf87 : CallsTo Try.prog 87 := callsTo Try.func87 (by kernel_rfl) (by kernel_rfl)
theorem cf88 : CallsTo Try.prog 88 := callsTo Try.func88 (by kernel_rfl) (by kernel_rfl)
theorem cf89 : CallsTo Try.prog 89 := callsTo Try.func89 (by kernel_rfl) (by kernel_rfl)
theorem ty_fo162_1 : fieldOff Try.prog 162 1 = some 1 := by kernel_rfl
theorem ty_ft162_1 : fieldTy Try.prog 162 1 = some 104 := by kernel_rfl
theorem ty_fo162_0 : fieldOff Try.prog 162 0 = some 0 := by kernel_rfl
theorem ty_ft162_0 : fieldTy Try.prog 162 0 = some 104 := by kernel_rfl
theorem cf91 : CallsTo Try.prog 91 := callsTo Try.func91 (by kernel_rfl) (by kernel_rfl)
theorem ty_fo106_1 : fieldOff Try.prog 106 1 = some 1 := by kernel_rfl
theorem ty_ft106_1 : fieldTy Try.prog 106 1 = some 104 := by kernel_rfl
theorem cf92 : CallsTo Try.prog 92 := callsTo Try.func92 (by kernel_rfl) (by kernel_rfl)
theorem cf93 : CallsTo Try.prog 93 := callsTo Try.func93 (by kernel_rfl) (by kernel_rfl)
theorem cf94 : CallsTo Try.prog 94 := callsTo Try.func94 (by kernel_rfl) (by kernel_rfl)
theorem cf95 : CallsTo Try.prog 95 := callsTo Try.func95 (by kernel_rfl) (by kernel_rfl)
theorem cf66 : CallsTo Try.prog 66 := callsTo Try.func66 (by kernel_rfl) (by kernel_rfl)
theorem cf96 : CallsTo Try.prog 96 := callsTo Try.func96 (by kernel_rfl) (by kernel_rfl)
theorem ty_fo136_0 : fieldOff Try.prog 136 0 = some 0 := by kernel_rfl
theorem ty_ft136_0 : fieldTy Try.prog 136 0 = some 106 := by kernel_rfl
theorem cf97 : CallsTo Try.prog 97 := callsTo Try.func97 (by kernel_rfl) (by kernel_rfl)
theorem ty_fo136_1 : fieldOff Try.prog 136 1 = some 2 := by kernel_rfl
theorem ty_ft136_1 : fieldTy Try.prog 136 1 = some 106 := by kernel_rfl
theorem cf98 : CallsTo Try.prog 98 := callsTo Try.func98 (by kernel_rfl) (by kernel_rfl)
theorem cf99 : CallsTo Try.prog 99 := callsTo Try.func99 (by kernel_rfl) (by kernel_rfl)
theorem cf100 : CallsTo Try.prog 100 := callsTo Try.func100 (by kernel_rfl) (by kernel_rfl)
theorem cf101 : CallsTo Try.prog 101 := callsTo Try.func101 (by kernel_rfl) (by kernel_rfl)
theorem ty_sz174 : szOf Try.prog 174 = some 1 := by kernel_rfl
theorem ty_sc174 : scalarT Try.prog 174 = true := by kernel_rfl
theorem ty_z174 : zeroOf Try.prog 174 = some [.map none] := by kernel_rfl
theorem ty_mp174 : mapT Try.prog 174 = some (9, 3) := by kernel_rfl
theorem ty_zv3 : zvOf Try.prog 3 = some (.int .i64 0) := by kernel_rfl
theorem cf102 : CallsTo Try.prog 102 := callsTo Try.func102 (by kernel_rfl) (by kernel_rfl)
theorem cf105 : CallsTo Try.prog 105 := callsTo Try.func105 (by kernel_rfl) (by kernel_rfl)
theorem cf104 : CallsTo Try.prog 104 := callsTo Try.func104 (by kernel_rfl) (by kernel_rfl)
theorem cf103 : CallsTo Try.prog 103 := callsTo Try.func103 (by kernel_rfl) (by kernel_rfl)
theorem cf106 : CallsTo Try.prog 106 := callsTo Try.func106 (by kernel_rfl) (by kernel_rfl)
theorem cf108 : CallsTo Try.prog 108 := callsTo Try.func108 (by kernel_rfl) (by kernel_rfl)
theorem ty_sz176 : szOf Try.prog 176 = some 1 := by kernel_rfl
theorem ty_sc176 : scalarT Try.prog 176 = true := by kernel_rfl
theorem ty_z176 : zeroOf Try.prog 176 = some [.slice none 0 0] := by kernel_rfl
theorem ty_sl176 : sliceT Try.prog 176 = some 180 := by kernel_rfl
theorem ty_sz180 : szOf Try.prog 180 = some 2 := by kernel_rfl
theorem ty_st180 : structT Try.prog 180 = true := by kernel_rfl
theorem ty_pl180 : placesOf Try.prog 180 = some [(0, 1), (1, 1)] := by kernel_rfl
theorem ty_z180 : zeroOf Try.prog 180 = some [.string ⟨#[]⟩, .int .i64 0] := by kernel_rfl
theorem ty_by180 : byOf Try.prog 180 = some 24 := by kernel_rfl
theorem ty_sz181 : szOf Try.prog 181 = some 1 := by kernel_rfl
theorem ty_sc181 : scalarT Try.prog 181 = true := by kernel_rfl
theorem ty_z181 : zeroOf Try.prog 181 = some [.nilFunc] := by kernel_rfl
theorem cf107 : CallsTo Try.prog 107 := callsTo Try.func107 (by kernel_rfl) (by kernel_rfl)
theorem ty_fo180_1 : fieldOff Try.prog 180 1 = some 1 := by kernel_rfl
theorem ty_ft180_1 : fieldTy Try.prog 180 1 = some 3 := by kernel_rfl
theorem cf109 : CallsTo Try.prog 109 := callsTo Try.func109 (by kernel_rfl) (by kernel_rfl)
theorem ty_sz5 : szOf Try.prog 5 = some 1 := by kernel_rfl
theorem ty_sc5 : scalarT Try.prog 5 = true := by kernel_rfl
theorem ty_z5 : zeroOf Try.prog 5 = some [.int .u8 0] := by kernel_rfl
theorem ty_u5 : Try.prog.underlying 5 = some (.int .u8) := by kernel_rfl
theorem ty_sz182 : szOf Try.prog 182 = some 1 := by kernel_rfl
theorem ty_sc182 : scalarT Try.prog 182 = true := by kernel_rfl
theorem ty_z182 : zeroOf Try.prog 182 = some [.int .u64 0] := by kernel_rfl
theorem ty_u182 : Try.prog.underlying 182 = some (.int .u64) := by kernel_rfl
theorem cf110 : CallsTo Try.prog 110 := callsTo Try.func110 (by kernel_rfl) (by kernel_rfl)
theorem ty_fo106_0 : fieldOff Try.prog 106 0 = some 0 := by kernel_rfl
theorem ty_ft106_0 : fieldTy Try.prog 106 0 = some 104 := by kernel_rfl
theorem cf111 : CallsTo Try.prog 111 := callsTo Try.func111 (by kernel_rfl) (by kernel_rfl)
theorem cf112 : CallsTo Try.prog 112 := callsTo Try.func112 (by kernel_rfl) (by kernel_rfl)
theorem cf113 : CallsTo Try.prog 113 := callsTo Try.func113 (by kernel_rfl) (by kernel_rfl)
theorem cf114 : CallsTo Try.prog 114 := callsTo Try.func114 (by kernel_rfl) (by kernel_rfl)
theorem cf115 : CallsTo Try.prog 115 := callsTo Try.func115 (by kernel_rfl) (by kernel_rfl)
theorem cf117 : CallsTo Try.prog 117 := callsTo Try.func117 (by kernel_rfl) (by kernel_rfl)
theorem cf116 : CallsTo Try.prog 116 := callsTo Try.func116 (by kernel_rfl) (by kernel_rfl)
theorem cf118 : CallsTo Try.prog 118 := callsTo Try.func118 (by kernel_rfl) (by kernel_rfl)
theorem cf119 : CallsTo Try.prog 119 := callsTo Try.func119 (by kernel_rfl) (by kernel_rfl)
theorem ty_fo180_0 : fieldOff Try.prog 180 0 = some 0 := by kernel_rfl
theorem ty_ft180_0 : fieldTy Try.prog 180 0 = some 9 := by kernel_rfl
theorem ty_sz192 : szOf Try.prog 192 = some 1 := by kernel_rfl
theorem ty_sc192 : scalarT Try.prog 192 = true := by kernel_rfl
theorem ty_z192 : zeroOf Try.prog 192 = some [.nilIface] := by kernel_rfl
theorem cf121 : CallsTo Try.prog 121 := callsTo Try.func121 (by kernel_rfl) (by kernel_rfl)
theorem cf122 : CallsTo Try.prog 122 := callsTo Try.func122 (by kernel_rfl) (by kernel_rfl)
theorem cf123 : CallsTo Try.prog 123 := callsTo Try.func123 (by kernel_rfl) (by kernel_rfl)
theorem cf124 : CallsTo Try.prog 124 := callsTo Try.func124 (by kernel_rfl) (by kernel_rfl)
theorem cf125 : CallsTo Try.prog 125 := callsTo Try.func125 (by kernel_rfl) (by kernel_rfl)
theorem cf126 : CallsTo Try.prog 126 := callsTo Try.func126 (by kernel_rfl) (by kernel_rfl)
theorem ty_sz195 : szOf Try.prog 195 = some 1 := by kernel_rfl
theorem ty_sc195 : scalarT Try.prog 195 = true := by kernel_rfl
theorem ty_z195 : zeroOf Try.prog 195 = some [.int .i64 0] := by kernel_rfl
theorem ty_u195 : Try.prog.underlying 195 = some (.int .i64) := by kernel_rfl
theorem cf127 : CallsTo Try.prog 127 := callsTo Try.func127 (by kernel_rfl) (by kernel_rfl)
theorem cf128 : CallsTo Try.prog 128 := callsTo Try.func128 (by kernel_rfl) (by kernel_rfl)
theorem cf129 : CallsTo Try.prog 129 := callsTo Try.func129 (by kernel_rfl) (by kernel_rfl)
theorem cf130 : CallsTo Try.prog 130 := callsTo Try.func130 (by kernel_rfl) (by kernel_rfl)
theorem cf131 : CallsTo Try.prog 131 := callsTo Try.func131 (by kernel_rfl) (by kernel_rfl)
theorem ty_sz203 : szOf Try.prog 203 = some 1 := by kernel_rfl
theorem ty_sc203 : scalarT Try.prog 203 = true := by kernel_rfl
theorem ty_z203 : zeroOf Try.prog 203 = some [.int .u32 0] := by kernel_rfl
theorem ty_u203 : Try.prog.underlying 203 = some (.int .u32) := by kernel_rfl
theorem cf132 : CallsTo Try.prog 132 := callsTo Try.func132 (by kernel_rfl) (by kernel_rfl)
theorem cf133 : CallsTo Try.prog 133 := callsTo Try.func133 (by kernel_rfl) (by kernel_rfl)
theorem cf135 : CallsTo Try.prog 135 := callsTo Try.func135 (by kernel_rfl) (by kernel_rfl)
theorem cf134 : CallsTo Try.prog 134 := callsTo Try.func134 (by kernel_rfl) (by kernel_rfl)
theorem cf136 : CallsTo Try.prog 136 := callsTo Try.func136 (by kernel_rfl) (by kernel_rfl)
theorem cf137 : CallsTo Try.prog 137 := callsTo Try.func137 (by kernel_rfl) (by kernel_rfl)
theorem ty_sz206 : szOf Try.prog 206 = some 1 := by kernel_rfl
theorem ty_sc206 : scalarT Try.prog 206 = true := by kernel_rfl
theorem ty_z206 : zeroOf Try.prog 206 = some [.int .u64 0] := by kernel_rfl
theorem ty_u206 : Try.prog.underlying 206 = some (.int .u64) := by kernel_rfl
theorem cf138 : CallsTo Try.prog 138 := callsTo Try.func138 (by kernel_rfl) (by kernel_rfl)
theorem cf139 : CallsTo Try.prog 139 := callsTo Try.func139 (by kernel_rfl) (by kernel_rfl)
theorem ty_sz210 : szOf Try.prog 210 = some 1 := by kernel_rfl
theorem ty_sc210 : scalarT Try.prog 210 = true := by kernel_rfl
theorem ty_z210 : zeroOf Try.prog 210 = some [.pointer none] := by kernel_rfl
theorem ty_u210 : Try.prog.underlying 210 = some (.pointer (Try.prog.pointee 210)) := by kernel_rfl
theorem cf140 : CallsTo Try.prog 140 := callsTo Try.func140 (by kernel_rfl) (by kernel_rfl)
theorem cf141 : CallsTo Try.prog 141 := callsTo Try.func141 (by kernel_rfl) (by kernel_rfl)
theorem cf142 : CallsTo Try.prog 142 := callsTo Try.func142 (by kernel_rfl) (by kernel_rfl)
theorem cf143 : CallsTo Try.prog 143 := callsTo Try.func143 (by kernel_rfl) (by kernel_rfl)
theorem ty_sz212 : szOf Try.prog 212 = some 1 := by kernel_rfl
theorem ty_sc212 : scalarT Try.prog 212 = true := by kernel_rfl
theorem ty_z212 : zeroOf Try.prog 212 = some [.slice none 0 0] := by kernel_rfl
theorem ty_sl212 : sliceT Try.prog 212 = some 5 := by kernel_rfl
theorem ty_by5 : byOf Try.prog 5 = some 1 := by kernel_rfl
theorem cf144 : CallsTo Try.prog 144 := callsTo Try.func144 (by kernel_rfl) (by kernel_rfl)
end Go.Proofs.Ytheofhegdjjfgaa
