/- The types of this program, as a table; conditions: none. -/
import Derived.Test.YtlpjchighfdomaaJS
namespace Go.Proofs.Ytlpjchighfdomaa.Sx
open Go.RowKit
set_option linter.unusedVariables false
noncomputable abbrev i0 : TI := ⟨1, false, (Value.tuple #[]), (TypeDesc.tuple #[]), []⟩
theorem ti0 : TIok Try.prog 0 i0 := ⟨Try.sizeOf0, Try.isAgg0, Try.zeroValue0, Try.runUnderlying0, fun fs h => nomatch h⟩
noncomputable abbrev i1 : TI := ⟨1, false, Value.nilFunc, (TypeDesc.func #[] #[] false), []⟩
theorem ti1 : TIok Try.prog 1 i1 := ⟨Try.sizeOf1, Try.isAgg1, Try.zeroValue1, Try.runUnderlying1, fun fs h => nomatch h⟩
noncomputable abbrev i2 : TI := ⟨1, false, (Value.int IntKind.i64 0), (TypeDesc.int IntKind.i64), []⟩
theorem ti2 : TIok Try.prog 2 i2 := ⟨Try.sizeOf2, Try.isAgg2, Try.zeroValue2, Try.runUnderlying2, fun fs h => nomatch h⟩
noncomputable abbrev i3 : TI := ⟨1, false, (Value.int IntKind.i64 0), (TypeDesc.int IntKind.i64), []⟩
theorem ti3 : TIok Try.prog 3 i3 := ⟨Try.sizeOf3, Try.isAgg3, Try.zeroValue3, Try.runUnderlying3, fun fs h => nomatch h⟩
noncomputable abbrev i4 : TI := ⟨1, false, (Value.bool false), TypeDesc.bool, []⟩
theorem ti4 : TIok Try.prog 4 i4 := ⟨Try.sizeOf4, Try.isAgg4, Try.zeroValue4, Try.runUnderlying4, fun fs h => nomatch h⟩
noncomputable abbrev i5 : TI := ⟨1, false, (Value.int IntKind.u8 0), (TypeDesc.int IntKind.u8), []⟩
theorem ti5 : TIok Try.prog 5 i5 := ⟨Try.sizeOf5, Try.isAgg5, Try.zeroValue5, Try.runUnderlying5, fun fs h => nomatch h⟩
noncomputable abbrev i6 : TI := ⟨1, false, (Value.int IntKind.u8 0), (TypeDesc.int IntKind.u8), []⟩
theorem ti6 : TIok Try.prog 6 i6 := ⟨Try.sizeOf6, Try.isAgg6, Try.zeroValue6, Try.runUnderlying6, fun fs h => nomatch h⟩
noncomputable abbrev i7 : TI := ⟨4, true, (Value.agg #[Value.int IntKind.i64 0, Value.int IntKind.i64 0, Value.bool false, Value.int IntKind.u8 0]), (TypeDesc.struct #[{ name := "x", type := 2, offset := 0, embedded := false, tag := "", pkgPath := "runtime", byteOffset := 0 }, { name := "y", type := 3, offset := 1, embedded := false, tag := "", pkgPath := "runtime", byteOffset := 8 }, { name := "signed", type := 4, offset := 2, embedded := false, tag := "", pkgPath := "runtime", byteOffset := 16 }, { name := "code", type := 6, offset := 3, embedded := false, tag := "", pkgPath := "runtime", byteOffset := 17 }]), [(0, 1, false), (1, 1, false), (2, 1, false), (3, 1, false)]⟩
theorem ti7 : TIok Try.prog 7 i7 := ⟨Try.sizeOf7, Try.isAgg7, Try.zeroValue7, Try.runUnderlying7, fun fs h => by cases h; exact ⟨rfl, Try.sizeOf2, Try.isAgg2, ⟨rfl, Try.sizeOf3, Try.isAgg3, ⟨rfl, Try.sizeOf4, Try.isAgg4, ⟨rfl, Try.sizeOf6, Try.isAgg6, trivial⟩⟩⟩⟩⟩
noncomputable abbrev i8 : TI := ⟨4, true, (Value.agg #[Value.int IntKind.i64 0, Value.int IntKind.i64 0, Value.bool false, Value.int IntKind.u8 0]), (TypeDesc.struct #[{ name := "x", type := 2, offset := 0, embedded := false, tag := "", pkgPath := "runtime", byteOffset := 0 }, { name := "y", type := 3, offset := 1, embedded := false, tag := "", pkgPath := "runtime", byteOffset := 8 }, { name := "signed", type := 4, offset := 2, embedded := false, tag := "", pkgPath := "runtime", byteOffset := 16 }, { name := "code", type := 6, offset := 3, embedded := false, tag := "", pkgPath := "runtime", byteOffset := 17 }]), [(0, 1, false), (1, 1, false), (2, 1, false), (3, 1, false)]⟩
theorem ti8 : TIok Try.prog 8 i8 := ⟨Try.sizeOf8, Try.isAgg8, Try.zeroValue8, Try.runUnderlying8, fun fs h => by cases h; exact ⟨rfl, Try.sizeOf2, Try.isAgg2, ⟨rfl, Try.sizeOf3, Try.isAgg3, ⟨rfl, Try.sizeOf4, Try.isAgg4, ⟨rfl, Try.sizeOf6, Try.isAgg6, trivial⟩⟩⟩⟩⟩
noncomputable abbrev i9 : TI := ⟨1, false, (Value.string { data := #[] }), TypeDesc.string, []⟩
theorem ti9 : TIok Try.prog 9 i9 := ⟨Try.sizeOf9, Try.isAgg9, Try.zeroValue9, Try.runUnderlying9, fun fs h => nomatch h⟩
noncomputable abbrev i10 : TI := ⟨1, false, (Value.string { data := #[] }), TypeDesc.string, []⟩
theorem ti10 : TIok Try.prog 10 i10 := ⟨Try.sizeOf10, Try.isAgg10, Try.zeroValue10, Try.runUnderlying10, fun fs h => nomatch h⟩
noncomputable abbrev i11 : TI := ⟨1, false, (Value.string { data := #[] }), TypeDesc.string, []⟩
theorem ti11 : TIok Try.prog 11 i11 := ⟨Try.sizeOf11, Try.isAgg11, Try.zeroValue11, Try.runUnderlying11, fun fs h => nomatch h⟩
noncomputable abbrev i12 : TI := ⟨1, false, (Value.int IntKind.u64 0), (TypeDesc.int IntKind.u64), []⟩
theorem ti12 : TIok Try.prog 12 i12 := ⟨Try.sizeOf12, Try.isAgg12, Try.zeroValue12, Try.runUnderlying12, fun fs h => nomatch h⟩
noncomputable abbrev i13 : TI := ⟨2, true, (Value.agg #[Value.string { data := #[] }, Value.int IntKind.u64 0]), (TypeDesc.struct #[{ name := "msg", type := 9, offset := 0, embedded := false, tag := "", pkgPath := "runtime", byteOffset := 0 }, { name := "addr", type := 12, offset := 1, embedded := false, tag := "", pkgPath := "runtime", byteOffset := 16 }]), [(0, 1, false), (1, 1, false)]⟩
theorem ti13 : TIok Try.prog 13 i13 := ⟨Try.sizeOf13, Try.isAgg13, Try.zeroValue13, Try.runUnderlying13, fun fs h => by cases h; exact ⟨rfl, Try.sizeOf9, Try.isAgg9, ⟨rfl, Try.sizeOf12, Try.isAgg12, trivial⟩⟩⟩
noncomputable abbrev i14 : TI := ⟨2, true, (Value.agg #[Value.string { data := #[] }, Value.int IntKind.u64 0]), (TypeDesc.struct #[{ name := "msg", type := 9, offset := 0, embedded := false, tag := "", pkgPath := "runtime", byteOffset := 0 }, { name := "addr", type := 12, offset := 1, embedded := false, tag := "", pkgPath := "runtime", byteOffset := 16 }]), [(0, 1, false), (1, 1, false)]⟩
theorem ti14 : TIok Try.prog 14 i14 := ⟨Try.sizeOf14, Try.isAgg14, Try.zeroValue14, Try.runUnderlying14, fun fs h => by cases h; exact ⟨rfl, Try.sizeOf9, Try.isAgg9, ⟨rfl, Try.sizeOf12, Try.isAgg12, trivial⟩⟩⟩
noncomputable abbrev i15 : TI := ⟨1, false, (Value.pointer none), (TypeDesc.pointer 156), []⟩
theorem ti15 : TIok Try.prog 15 i15 := ⟨Try.sizeOf15, Try.isAgg15, Try.zeroValue15, Try.runUnderlying15, fun fs h => nomatch h⟩
noncomputable abbrev i16 : TI := ⟨1, false, (Value.pointer none), (TypeDesc.pointer 159), []⟩
theorem ti16 : TIok Try.prog 16 i16 := ⟨Try.sizeOf16, Try.isAgg16, Try.zeroValue16, Try.runUnderlying16, fun fs h => nomatch h⟩
noncomputable abbrev i17 : TI := ⟨1, false, (Value.pointer none), (TypeDesc.pointer 167), []⟩
theorem ti17 : TIok Try.prog 17 i17 := ⟨Try.sizeOf17, Try.isAgg17, Try.zeroValue17, Try.runUnderlying17, fun fs h => nomatch h⟩
noncomputable abbrev i18 : TI := ⟨1, true, (Value.agg #[Value.pointer none]), (TypeDesc.struct #[{ name := "typ", type := 17, offset := 0, embedded := false, tag := "", pkgPath := "internal/runtime/maps", byteOffset := 0 }]), [(0, 1, false)]⟩
theorem ti18 : TIok Try.prog 18 i18 := ⟨Try.sizeOf18, Try.isAgg18, Try.zeroValue18, Try.runUnderlying18, fun fs h => by cases h; exact ⟨rfl, Try.sizeOf17, Try.isAgg17, trivial⟩⟩
noncomputable abbrev i19 : TI := ⟨1, true, (Value.agg #[Value.pointer none]), (TypeDesc.struct #[{ name := "typ", type := 17, offset := 0, embedded := false, tag := "", pkgPath := "internal/runtime/maps", byteOffset := 0 }]), [(0, 1, false)]⟩
theorem ti19 : TIok Try.prog 19 i19 := ⟨Try.sizeOf19, Try.isAgg19, Try.zeroValue19, Try.runUnderlying19, fun fs h => by cases h; exact ⟨rfl, Try.sizeOf17, Try.isAgg17, trivial⟩⟩
noncomputable abbrev i20 : TI := ⟨1, false, Value.nilIface, (TypeDesc.interface #[]), []⟩
theorem ti20 : TIok Try.prog 20 i20 := ⟨Try.sizeOf20, Try.isAgg20, Try.zeroValue20, Try.runUnderlying20, fun fs h => nomatch h⟩
noncomputable abbrev i21 : TI := ⟨1, false, (Value.int IntKind.i32 0), (TypeDesc.int IntKind.i32), []⟩
theorem ti21 : TIok Try.prog 21 i21 := ⟨Try.sizeOf21, Try.isAgg21, Try.zeroValue21, Try.runUnderlying21, fun fs h => nomatch h⟩
noncomputable abbrev i22 : TI := ⟨1, false, (Value.slice none 0 0), (TypeDesc.slice 5), []⟩
theorem ti22 : TIok Try.prog 22 i22 := ⟨Try.sizeOf22, Try.isAgg22, Try.zeroValue22, Try.runUnderlying22, fun fs h => nomatch h⟩
noncomputable abbrev i23 : TI := ⟨1, false, Value.nilFunc, (TypeDesc.func #[] #[4] false), []⟩
theorem ti23 : TIok Try.prog 23 i23 := ⟨Try.sizeOf23, Try.isAgg23, Try.zeroValue23, Try.runUnderlying23, fun fs h => nomatch h⟩
noncomputable abbrev i24 : TI := ⟨1, false, (Value.slice none 0 0), (TypeDesc.slice 41), []⟩
theorem ti24 : TIok Try.prog 24 i24 := ⟨Try.sizeOf24, Try.isAgg24, Try.zeroValue24, Try.runUnderlying24, fun fs h => nomatch h⟩
noncomputable abbrev i25 : TI := ⟨1, false, (Value.int IntKind.i64 0), (TypeDesc.int IntKind.i64), []⟩
theorem ti25 : TIok Try.prog 25 i25 := ⟨Try.sizeOf25, Try.isAgg25, Try.zeroValue25, Try.runUnderlying25, fun fs h => nomatch h⟩
noncomputable abbrev i26 : TI := ⟨1, false, (Value.tuple #[Value.slice none 0 0, Value.int IntKind.i64 0]), (TypeDesc.tuple #[24, 25]), []⟩
theorem ti26 : TIok Try.prog 26 i26 := ⟨Try.sizeOf26, Try.isAgg26, Try.zeroValue26, Try.runUnderlying26, fun fs h => nomatch h⟩
noncomputable abbrev i27 : TI := ⟨1, false, Value.nilFunc, (TypeDesc.func #[22] #[24, 25] false), []⟩
theorem ti27 : TIok Try.prog 27 i27 := ⟨Try.sizeOf27, Try.isAgg27, Try.zeroValue27, Try.runUnderlying27, fun fs h => nomatch h⟩
noncomputable abbrev i28 : TI := ⟨1, false, (Value.slice none 0 0), (TypeDesc.slice 50), []⟩
theorem ti28 : TIok Try.prog 28 i28 := ⟨Try.sizeOf28, Try.isAgg28, Try.zeroValue28, Try.runUnderlying28, fun fs h => nomatch h⟩
noncomputable abbrev i29 : TI := ⟨1, false, (Value.tuple #[Value.slice none 0 0, Value.int IntKind.i64 0]), (TypeDesc.tuple #[28, 25]), []⟩
theorem ti29 : TIok Try.prog 29 i29 := ⟨Try.sizeOf29, Try.isAgg29, Try.zeroValue29, Try.runUnderlying29, fun fs h => nomatch h⟩
noncomputable abbrev i30 : TI := ⟨1, false, Value.nilFunc, (TypeDesc.func #[9] #[28, 25] false), []⟩
theorem ti30 : TIok Try.prog 30 i30 := ⟨Try.sizeOf30, Try.isAgg30, Try.zeroValue30, Try.runUnderlying30, fun fs h => nomatch h⟩
noncomputable abbrev i31 : TI := ⟨1, false, Value.nilFunc, (TypeDesc.func #[28, 28] #[4] false), []⟩
theorem ti31 : TIok Try.prog 31 i31 := ⟨Try.sizeOf31, Try.isAgg31, Try.zeroValue31, Try.runUnderlying31, fun fs h => nomatch h⟩
noncomputable abbrev i32 : TI := ⟨1, false, Value.nilFunc, (TypeDesc.func #[24] #[28] false), []⟩
theorem ti32 : TIok Try.prog 32 i32 := ⟨Try.sizeOf32, Try.isAgg32, Try.zeroValue32, Try.runUnderlying32, fun fs h => nomatch h⟩
noncomputable abbrev i33 : TI := ⟨1, false, (Value.tuple #[Value.slice none 0 0, Value.int IntKind.i64 0]), (TypeDesc.tuple #[22, 25]), []⟩
theorem ti33 : TIok Try.prog 33 i33 := ⟨Try.sizeOf33, Try.isAgg33, Try.zeroValue33, Try.runUnderlying33, fun fs h => nomatch h⟩
noncomputable abbrev i34 : TI := ⟨1, false, Value.nilFunc, (TypeDesc.func #[24] #[22, 25] false), []⟩
theorem ti34 : TIok Try.prog 34 i34 := ⟨Try.sizeOf34, Try.isAgg34, Try.zeroValue34, Try.runUnderlying34, fun fs h => nomatch h⟩
noncomputable abbrev i35 : TI := ⟨1, false, Value.nilFunc, (TypeDesc.func #[22] #[4] false), []⟩
theorem ti35 : TIok Try.prog 35 i35 := ⟨Try.sizeOf35, Try.isAgg35, Try.zeroValue35, Try.runUnderlying35, fun fs h => nomatch h⟩
noncomputable abbrev i36 : TI := ⟨1, false, (Value.int IntKind.u64 0), (TypeDesc.int IntKind.u64), []⟩
theorem ti36 : TIok Try.prog 36 i36 := ⟨Try.sizeOf36, Try.isAgg36, Try.zeroValue36, Try.runUnderlying36, fun fs h => nomatch h⟩
noncomputable abbrev i37 : TI := ⟨1, false, (Value.int IntKind.u32 0), (TypeDesc.int IntKind.u32), []⟩
theorem ti37 : TIok Try.prog 37 i37 := ⟨Try.sizeOf37, Try.isAgg37, Try.zeroValue37, Try.runUnderlying37, fun fs h => nomatch h⟩
noncomputable abbrev i38 : TI := ⟨2, true, (Value.agg #[Value.int IntKind.u32 0, Value.int IntKind.u32 0]), (TypeDesc.struct #[{ name := "Ino", type := 37, offset := 0, embedded := false, tag := "", pkgPath := "", byteOffset := 0 }, { name := "Gen", type := 37, offset := 1, embedded := false, tag := "", pkgPath := "", byteOffset := 4 }]), [(0, 1, false), (1, 1, false)]⟩
theorem ti38 : TIok Try.prog 38 i38 := ⟨Try.sizeOf38, Try.isAgg38, Try.zeroValue38, Try.runUnderlying38, fun fs h => by cases h; exact ⟨rfl, Try.sizeOf37, Try.isAgg37, ⟨rfl, Try.sizeOf37, Try.isAgg37, trivial⟩⟩⟩
noncomputable abbrev i39 : TI := ⟨2, true, (Value.agg #[Value.int IntKind.u32 0, Value.int IntKind.u32 0]), (TypeDesc.struct #[{ name := "Ino", type := 37, offset := 0, embedded := false, tag := "", pkgPath := "", byteOffset := 0 }, { name := "Gen", type := 37, offset := 1, embedded := false, tag := "", pkgPath := "", byteOffset := 4 }]), [(0, 1, false), (1, 1, false)]⟩
theorem ti39 : TIok Try.prog 39 i39 := ⟨Try.sizeOf39, Try.isAgg39, Try.zeroValue39, Try.runUnderlying39, fun fs h => by cases h; exact ⟨rfl, Try.sizeOf37, Try.isAgg37, ⟨rfl, Try.sizeOf37, Try.isAgg37, trivial⟩⟩⟩
noncomputable abbrev i40 : TI := ⟨4, true, (Value.agg #[Value.int IntKind.u64 0, Value.int IntKind.u32 0, Value.int IntKind.u32 0, Value.string { data := #[] }]), (TypeDesc.struct #[{ name := "Cookie", type := 36, offset := 0, embedded := false, tag := "", pkgPath := "", byteOffset := 0 }, { name := "Handle", type := 39, offset := 1, embedded := false, tag := "", pkgPath := "", byteOffset := 8 }, { name := "Name", type := 9, offset := 3, embedded := false, tag := "", pkgPath := "", byteOffset := 16 }]), [(0, 1, false), (1, 2, true), (3, 1, false)]⟩
theorem ti40 : TIok Try.prog 40 i40 := ⟨Try.sizeOf40, Try.isAgg40, Try.zeroValue40, Try.runUnderlying40, fun fs h => by cases h; exact ⟨rfl, Try.sizeOf36, Try.isAgg36, ⟨rfl, Try.sizeOf39, Try.isAgg39, ⟨rfl, Try.sizeOf9, Try.isAgg9, trivial⟩⟩⟩⟩
noncomputable abbrev i41 : TI := ⟨4, true, (Value.agg #[Value.int IntKind.u64 0, Value.int IntKind.u32 0, Value.int IntKind.u32 0, Value.string { data := #[] }]), (TypeDesc.struct #[{ name := "Cookie", type := 36, offset := 0, embedded := false, tag := "", pkgPath := "", byteOffset := 0 }, { name := "Handle", type := 39, offset := 1, embedded := false, tag := "", pkgPath := "", byteOffset := 8 }, { name := "Name", type := 9, offset := 3, embedded := false, tag := "", pkgPath := "", byteOffset := 16 }]), [(0, 1, false), (1, 2, true), (3, 1, false)]⟩
theorem ti41 : TIok Try.prog 41 i41 := ⟨Try.sizeOf41, Try.isAgg41, Try.zeroValue41, Try.runUnderlying41, fun fs h => by cases h; exact ⟨rfl, Try.sizeOf36, Try.isAgg36, ⟨rfl, Try.sizeOf39, Try.isAgg39, ⟨rfl, Try.sizeOf9, Try.isAgg9, trivial⟩⟩⟩⟩
noncomputable abbrev i42 : TI := ⟨1, false, Value.nilFunc, (TypeDesc.func #[24] #[4] false), []⟩
theorem ti42 : TIok Try.prog 42 i42 := ⟨Try.sizeOf42, Try.isAgg42, Try.zeroValue42, Try.runUnderlying42, fun fs h => nomatch h⟩
noncomputable abbrev i43 : TI := ⟨1, false, (Value.tuple #[Value.string { data := #[] }, Value.int IntKind.i64 0]), (TypeDesc.tuple #[9, 25]), []⟩
theorem ti43 : TIok Try.prog 43 i43 := ⟨Try.sizeOf43, Try.isAgg43, Try.zeroValue43, Try.runUnderlying43, fun fs h => nomatch h⟩
noncomputable abbrev i44 : TI := ⟨1, false, Value.nilFunc, (TypeDesc.func #[28] #[9, 25] false), []⟩
theorem ti44 : TIok Try.prog 44 i44 := ⟨Try.sizeOf44, Try.isAgg44, Try.zeroValue44, Try.runUnderlying44, fun fs h => nomatch h⟩
noncomputable abbrev i45 : TI := ⟨1, false, Value.nilFunc, (TypeDesc.func #[9] #[25] false), []⟩
theorem ti45 : TIok Try.prog 45 i45 := ⟨Try.sizeOf45, Try.isAgg45, Try.zeroValue45, Try.runUnderlying45, fun fs h => nomatch h⟩
noncomputable abbrev i46 : TI := ⟨1, false, Value.nilFunc, (TypeDesc.func #[24, 9] #[3] false), []⟩
theorem ti46 : TIok Try.prog 46 i46 := ⟨Try.sizeOf46, Try.isAgg46, Try.zeroValue46, Try.runUnderlying46, fun fs h => nomatch h⟩
noncomputable abbrev i47 : TI := ⟨1, false, Value.nilFunc, (TypeDesc.func #[28, 9] #[3] false), []⟩
theorem ti47 : TIok Try.prog 47 i47 := ⟨Try.sizeOf47, Try.isAgg47, Try.zeroValue47, Try.runUnderlying47, fun fs h => nomatch h⟩
noncomputable abbrev i48 : TI := ⟨1, false, Value.nilFunc, (TypeDesc.func #[24, 41] #[24, 25] false), []⟩
theorem ti48 : TIok Try.prog 48 i48 := ⟨Try.sizeOf48, Try.isAgg48, Try.zeroValue48, Try.runUnderlying48, fun fs h => nomatch h⟩
noncomputable abbrev i49 : TI := ⟨1, false, Value.nilFunc, (TypeDesc.func #[28, 50] #[28, 25] false), []⟩
theorem ti49 : TIok Try.prog 49 i49 := ⟨Try.sizeOf49, Try.isAgg49, Try.zeroValue49, Try.runUnderlying49, fun fs h => nomatch h⟩
noncomputable abbrev i50 : TI := ⟨4, true, (Value.agg #[Value.int IntKind.u64 0, Value.int IntKind.u32 0, Value.int IntKind.u32 0, Value.string { data := #[] }]), (TypeDesc.struct #[{ name := "Cookie", type := 36, offset := 0, embedded := false, tag := "", pkgPath := "", byteOffset := 0 }, { name := "Handle", type := 39, offset := 1, embedded := false, tag := "", pkgPath := "", byteOffset := 8 }, { name := "Name", type := 9, offset := 3, embedded := false, tag := "", pkgPath := "", byteOffset := 16 }]), [(0, 1, false), (1, 2, true), (3, 1, false)]⟩
theorem ti50 : TIok Try.prog 50 i50 := ⟨Try.sizeOf50, Try.isAgg50, Try.zeroValue50, Try.runUnderlying50, fun fs h => by cases h; exact ⟨rfl, Try.sizeOf36, Try.isAgg36, ⟨rfl, Try.sizeOf39, Try.isAgg39, ⟨rfl, Try.sizeOf9, Try.isAgg9, trivial⟩⟩⟩⟩
noncomputable abbrev i51 : TI := ⟨1, false, Value.nilFunc, (TypeDesc.func #[24, 9] #[24, 25] false), []⟩
theorem ti51 : TIok Try.prog 51 i51 := ⟨Try.sizeOf51, Try.isAgg51, Try.zeroValue51, Try.runUnderlying51, fun fs h => nomatch h⟩
noncomputable abbrev i52 : TI := ⟨1, false, Value.nilFunc, (TypeDesc.func #[28, 9] #[28, 25] false), []⟩
theorem ti52 : TIok Try.prog 52 i52 := ⟨Try.sizeOf52, Try.isAgg52, Try.zeroValue52, Try.runUnderlying52, fun fs h => nomatch h⟩
noncomputable abbrev i53 : TI := ⟨1, false, (Value.tuple #[Value.slice none 0 0, Value.bool false]), (TypeDesc.tuple #[24, 4]), []⟩
theorem ti53 : TIok Try.prog 53 i53 := ⟨Try.sizeOf53, Try.isAgg53, Try.zeroValue53, Try.runUnderlying53, fun fs h => nomatch h⟩
noncomputable abbrev i54 : TI := ⟨1, false, Value.nilFunc, (TypeDesc.func #[24, 36, 3] #[24, 4] false), []⟩
theorem ti54 : TIok Try.prog 54 i54 := ⟨Try.sizeOf54, Try.isAgg54, Try.zeroValue54, Try.runUnderlying54, fun fs h => nomatch h⟩
noncomputable abbrev i55 : TI := ⟨1, false, (Value.tuple #[Value.slice none 0 0, Value.bool false]), (TypeDesc.tuple #[28, 4]), []⟩
theorem ti55 : TIok Try.prog 55 i55 := ⟨Try.sizeOf55, Try.isAgg55, Try.zeroValue55, Try.runUnderlying55, fun fs h => nomatch h⟩
noncomputable abbrev i56 : TI := ⟨1, false, Value.nilFunc, (TypeDesc.func #[28, 36, 3] #[28, 4] false), []⟩
theorem ti56 : TIok Try.prog 56 i56 := ⟨Try.sizeOf56, Try.isAgg56, Try.zeroValue56, Try.runUnderlying56, fun fs h => nomatch h⟩
noncomputable abbrev i57 : TI := ⟨1, false, Value.nilFunc, (TypeDesc.func #[24, 41, 36, 3] #[4] false), []⟩
theorem ti57 : TIok Try.prog 57 i57 := ⟨Try.sizeOf57, Try.isAgg57, Try.zeroValue57, Try.runUnderlying57, fun fs h => nomatch h⟩
noncomputable abbrev i58 : TI := ⟨1, false, (Value.slice none 0 0), (TypeDesc.slice 4), []⟩
theorem ti58 : TIok Try.prog 58 i58 := ⟨Try.sizeOf58, Try.isAgg58, Try.zeroValue58, Try.runUnderlying58, fun fs h => nomatch h⟩
noncomputable abbrev i59 : TI := ⟨1, false, (Value.slice none 0 0), (TypeDesc.slice 3), []⟩
theorem ti59 : TIok Try.prog 59 i59 := ⟨Try.sizeOf59, Try.isAgg59, Try.zeroValue59, Try.runUnderlying59, fun fs h => nomatch h⟩
noncomputable abbrev i60 : TI := ⟨1, false, (Value.int IntKind.u64 0), (TypeDesc.int IntKind.u64), []⟩
theorem ti60 : TIok Try.prog 60 i60 := ⟨Try.sizeOf60, Try.isAgg60, Try.zeroValue60, Try.runUnderlying60, fun fs h => nomatch h⟩
noncomputable abbrev i61 : TI := ⟨1, false, Value.nilFunc, (TypeDesc.func #[22, 5, 22] #[4] false), []⟩
theorem ti61 : TIok Try.prog 61 i61 := ⟨Try.sizeOf61, Try.isAgg61, Try.zeroValue61, Try.runUnderlying61, fun fs h => nomatch h⟩
noncomputable abbrev i62 : TI := ⟨1, false, Value.nilFunc, (TypeDesc.func #[9] #[4] false), []⟩
theorem ti62 : TIok Try.prog 62 i62 := ⟨Try.sizeOf62, Try.isAgg62, Try.zeroValue62, Try.runUnderlying62, fun fs h => nomatch h⟩
noncomputable abbrev i63 : TI := ⟨1, false, Value.nilFunc, (TypeDesc.func #[5, 22] #[4] false), []⟩
theorem ti63 : TIok Try.prog 63 i63 := ⟨Try.sizeOf63, Try.isAgg63, Try.zeroValue63, Try.runUnderlying63, fun fs h => nomatch h⟩
noncomputable abbrev i64 : TI := ⟨1, false, Value.nilFunc, (TypeDesc.func #[24, 5] #[4] false), []⟩
theorem ti64 : TIok Try.prog 64 i64 := ⟨Try.sizeOf64, Try.isAgg64, Try.zeroValue64, Try.runUnderlying64, fun fs h => nomatch h⟩
noncomputable abbrev i65 : TI := ⟨9, true, (Value.agg #[Value.int IntKind.u32 0, Value.int IntKind.u32 0, Value.int IntKind.u32 0, Value.int IntKind.u32 0, Value.int IntKind.u32 0, Value.int IntKind.u64 0, Value.int IntKind.u64 0, Value.int IntKind.u64 0, Value.slice none 0 0]), (TypeDesc.struct #[{ name := "Ino", type := 37, offset := 0, embedded := false, tag := "", pkgPath := "", byteOffset := 0 }, { name := "Kind", type := 37, offset := 1, embedded := false, tag := "", pkgPath := "", byteOffset := 4 }, { name := "Gen", type := 37, offset := 2, embedded := false, tag := "", pkgPath := "", byteOffset := 8 }, { name := "Links", type := 37, offset := 3, embedded := false, tag := "", pkgPath := "", byteOffset := 12 }, { name := "Mode", type := 37, offset := 4, embedded := false, tag := "", pkgPath := "", byteOffset := 16 }, { name := "Change", type := 36, offset := 5, embedded := false, tag := "", pkgPath := "", byteOffset := 24 }, { name := "Cookie", type := 36, offset := 6, embedded := false, tag := "", pkgPath := "", byteOffset := 32 }, { name := "Verf", type := 36, offset := 7, embedded := false, tag := "", pkgPath := "", byteOffset := 40 }, { name := "Data", type := 22, offset := 8, embedded := false, tag := "", pkgPath := "", byteOffset := 48 }]), [(0, 1, false), (1, 1, false), (2, 1, false), (3, 1, false), (4, 1, false), (5, 1, false), (6, 1, false), (7, 1, false), (8, 1, false)]⟩
theorem ti65 : TIok Try.prog 65 i65 := ⟨Try.sizeOf65, Try.isAgg65, Try.zeroValue65, Try.runUnderlying65, fun fs h => by cases h; exact ⟨rfl, Try.sizeOf37, Try.isAgg37, ⟨rfl, Try.sizeOf37, Try.isAgg37, ⟨rfl, Try.sizeOf37, Try.isAgg37, ⟨rfl, Try.sizeOf37, Try.isAgg37, ⟨rfl, Try.sizeOf37, Try.isAgg37, ⟨rfl, Try.sizeOf36, Try.isAgg36, ⟨rfl, Try.sizeOf36, Try.isAgg36, ⟨rfl, Try.sizeOf36, Try.isAgg36, ⟨rfl, Try.sizeOf22, Try.isAgg22, trivial⟩⟩⟩⟩⟩⟩⟩⟩⟩⟩
noncomputable abbrev i66 : TI := ⟨9, true, (Value.agg #[Value.int IntKind.u32 0, Value.int IntKind.u32 0, Value.int IntKind.u32 0, Value.int IntKind.u32 0, Value.int IntKind.u32 0, Value.int IntKind.u64 0, Value.int IntKind.u64 0, Value.int IntKind.u64 0, Value.slice none 0 0]), (TypeDesc.struct #[{ name := "Ino", type := 37, offset := 0, embedded := false, tag := "", pkgPath := "", byteOffset := 0 }, { name := "Kind", type := 37, offset := 1, embedded := false, tag := "", pkgPath := "", byteOffset := 4 }, { name := "Gen", type := 37, offset := 2, embedded := false, tag := "", pkgPath := "", byteOffset := 8 }, { name := "Links", type := 37, offset := 3, embedded := false, tag := "", pkgPath := "", byteOffset := 12 }, { name := "Mode", type := 37, offset := 4, embedded := false, tag := "", pkgPath := "", byteOffset := 16 }, { name := "Change", type := 36, offset := 5, embedded := false, tag := "", pkgPath := "", byteOffset := 24 }, { name := "Cookie", type := 36, offset := 6, embedded := false, tag := "", pkgPath := "", byteOffset := 32 }, { name := "Verf", type := 36, offset := 7, embedded := false, tag := "", pkgPath := "", byteOffset := 40 }, { name := "Data", type := 22, offset := 8, embedded := false, tag := "", pkgPath := "", byteOffset := 48 }]), [(0, 1, false), (1, 1, false), (2, 1, false), (3, 1, false), (4, 1, false), (5, 1, false), (6, 1, false), (7, 1, false), (8, 1, false)]⟩
theorem ti66 : TIok Try.prog 66 i66 := ⟨Try.sizeOf66, Try.isAgg66, Try.zeroValue66, Try.runUnderlying66, fun fs h => by cases h; exact ⟨rfl, Try.sizeOf37, Try.isAgg37, ⟨rfl, Try.sizeOf37, Try.isAgg37, ⟨rfl, Try.sizeOf37, Try.isAgg37, ⟨rfl, Try.sizeOf37, Try.isAgg37, ⟨rfl, Try.sizeOf37, Try.isAgg37, ⟨rfl, Try.sizeOf36, Try.isAgg36, ⟨rfl, Try.sizeOf36, Try.isAgg36, ⟨rfl, Try.sizeOf36, Try.isAgg36, ⟨rfl, Try.sizeOf22, Try.isAgg22, trivial⟩⟩⟩⟩⟩⟩⟩⟩⟩⟩
noncomputable abbrev i67 : TI := ⟨1, false, Value.nilFunc, (TypeDesc.func #[66] #[22, 25] false), []⟩
theorem ti67 : TIok Try.prog 67 i67 := ⟨Try.sizeOf67, Try.isAgg67, Try.zeroValue67, Try.runUnderlying67, fun fs h => nomatch h⟩
noncomputable abbrev i68 : TI := ⟨1, false, Value.nilFunc, (TypeDesc.func #[70] #[9, 25] false), []⟩
theorem ti68 : TIok Try.prog 68 i68 := ⟨Try.sizeOf68, Try.isAgg68, Try.zeroValue68, Try.runUnderlying68, fun fs h => nomatch h⟩
noncomputable abbrev i69 : TI := ⟨9, true, (Value.agg #[Value.int IntKind.u32 0, Value.int IntKind.u32 0, Value.int IntKind.u32 0, Value.int IntKind.u32 0, Value.int IntKind.u32 0, Value.int IntKind.u64 0, Value.int IntKind.u64 0, Value.int IntKind.u64 0, Value.string { data := #[] }]), (TypeDesc.struct #[{ name := "Ino", type := 37, offset := 0, embedded := false, tag := "", pkgPath := "", byteOffset := 0 }, { name := "Kind", type := 37, offset := 1, embedded := false, tag := "", pkgPath := "", byteOffset := 4 }, { name := "Gen", type := 37, offset := 2, embedded := false, tag := "", pkgPath := "", byteOffset := 8 }, { name := "Links", type := 37, offset := 3, embedded := false, tag := "", pkgPath := "", byteOffset := 12 }, { name := "Mode", type := 37, offset := 4, embedded := false, tag := "", pkgPath := "", byteOffset := 16 }, { name := "Change", type := 36, offset := 5, embedded := false, tag := "", pkgPath := "", byteOffset := 24 }, { name := "Cookie", type := 36, offset := 6, embedded := false, tag := "", pkgPath := "", byteOffset := 32 }, { name := "Verf", type := 36, offset := 7, embedded := false, tag := "", pkgPath := "", byteOffset := 40 }, { name := "Data", type := 9, offset := 8, embedded := false, tag := "", pkgPath := "", byteOffset := 48 }]), [(0, 1, false), (1, 1, false), (2, 1, false), (3, 1, false), (4, 1, false), (5, 1, false), (6, 1, false), (7, 1, false), (8, 1, false)]⟩
theorem ti69 : TIok Try.prog 69 i69 := ⟨Try.sizeOf69, Try.isAgg69, Try.zeroValue69, Try.runUnderlying69, fun fs h => by cases h; exact ⟨rfl, Try.sizeOf37, Try.isAgg37, ⟨rfl, Try.sizeOf37, Try.isAgg37, ⟨rfl, Try.sizeOf37, Try.isAgg37, ⟨rfl, Try.sizeOf37, Try.isAgg37, ⟨rfl, Try.sizeOf37, Try.isAgg37, ⟨rfl, Try.sizeOf36, Try.isAgg36, ⟨rfl, Try.sizeOf36, Try.isAgg36, ⟨rfl, Try.sizeOf36, Try.isAgg36, ⟨rfl, Try.sizeOf9, Try.isAgg9, trivial⟩⟩⟩⟩⟩⟩⟩⟩⟩⟩
noncomputable abbrev i70 : TI := ⟨9, true, (Value.agg #[Value.int IntKind.u32 0, Value.int IntKind.u32 0, Value.int IntKind.u32 0, Value.int IntKind.u32 0, Value.int IntKind.u32 0, Value.int IntKind.u64 0, Value.int IntKind.u64 0, Value.int IntKind.u64 0, Value.string { data := #[] }]), (TypeDesc.struct #[{ name := "Ino", type := 37, offset := 0, embedded := false, tag := "", pkgPath := "", byteOffset := 0 }, { name := "Kind", type := 37, offset := 1, embedded := false, tag := "", pkgPath := "", byteOffset := 4 }, { name := "Gen", type := 37, offset := 2, embedded := false, tag := "", pkgPath := "", byteOffset := 8 }, { name := "Links", type := 37, offset := 3, embedded := false, tag := "", pkgPath := "", byteOffset := 12 }, { name := "Mode", type := 37, offset := 4, embedded := false, tag := "", pkgPath := "", byteOffset := 16 }, { name := "Change", type := 36, offset := 5, embedded := false, tag := "", pkgPath := "", byteOffset := 24 }, { name := "Cookie", type := 36, offset := 6, embedded := false, tag := "", pkgPath := "", byteOffset := 32 }, { name := "Verf", type := 36, offset := 7, embedded := false, tag := "", pkgPath := "", byteOffset := 40 }, { name := "Data", type := 9, offset := 8, embedded := false, tag := "", pkgPath := "", byteOffset := 48 }]), [(0, 1, false), (1, 1, false), (2, 1, false), (3, 1, false), (4, 1, false), (5, 1, false), (6, 1, false), (7, 1, false), (8, 1, false)]⟩
theorem ti70 : TIok Try.prog 70 i70 := ⟨Try.sizeOf70, Try.isAgg70, Try.zeroValue70, Try.runUnderlying70, fun fs h => by cases h; exact ⟨rfl, Try.sizeOf37, Try.isAgg37, ⟨rfl, Try.sizeOf37, Try.isAgg37, ⟨rfl, Try.sizeOf37, Try.isAgg37, ⟨rfl, Try.sizeOf37, Try.isAgg37, ⟨rfl, Try.sizeOf37, Try.isAgg37, ⟨rfl, Try.sizeOf36, Try.isAgg36, ⟨rfl, Try.sizeOf36, Try.isAgg36, ⟨rfl, Try.sizeOf36, Try.isAgg36, ⟨rfl, Try.sizeOf9, Try.isAgg9, trivial⟩⟩⟩⟩⟩⟩⟩⟩⟩⟩
noncomputable abbrev i71 : TI := ⟨1, false, Value.nilFunc, (TypeDesc.func #[66] #[70] false), []⟩
theorem ti71 : TIok Try.prog 71 i71 := ⟨Try.sizeOf71, Try.isAgg71, Try.zeroValue71, Try.runUnderlying71, fun fs h => nomatch h⟩
noncomputable abbrev i72 : TI := ⟨1, false, Value.nilFunc, (TypeDesc.func #[66] #[39] false), []⟩
theorem ti72 : TIok Try.prog 72 i72 := ⟨Try.sizeOf72, Try.isAgg72, Try.zeroValue72, Try.runUnderlying72, fun fs h => nomatch h⟩
noncomputable abbrev i73 : TI := ⟨1, false, Value.nilFunc, (TypeDesc.func #[66] #[25] false), []⟩
theorem ti73 : TIok Try.prog 73 i73 := ⟨Try.sizeOf73, Try.isAgg73, Try.zeroValue73, Try.runUnderlying73, fun fs h => nomatch h⟩
noncomputable abbrev i74 : TI := ⟨1, false, Value.nilFunc, (TypeDesc.func #[70] #[25] false), []⟩
theorem ti74 : TIok Try.prog 74 i74 := ⟨Try.sizeOf74, Try.isAgg74, Try.zeroValue74, Try.runUnderlying74, fun fs h => nomatch h⟩
noncomputable abbrev i75 : TI := ⟨1, false, Value.nilFunc, (TypeDesc.func #[66, 66] #[4] false), []⟩
theorem ti75 : TIok Try.prog 75 i75 := ⟨Try.sizeOf75, Try.isAgg75, Try.zeroValue75, Try.runUnderlying75, fun fs h => nomatch h⟩
noncomputable abbrev i76 : TI := ⟨1, false, (Value.tuple #[Value.agg #[Value.int IntKind.u32 0, Value.int IntKind.u32 0, Value.int IntKind.u32 0, Value.int IntKind.u32 0, Value.int IntKind.u32 0, Value.int IntKind.u64 0, Value.int IntKind.u64 0, Value.int IntKind.u64 0, Value.slice none 0 0], Value.int IntKind.i64 0]), (TypeDesc.tuple #[66, 25]), []⟩
theorem ti76 : TIok Try.prog 76 i76 := ⟨Try.sizeOf76, Try.isAgg76, Try.zeroValue76, Try.runUnderlying76, fun fs h => nomatch h⟩
noncomputable abbrev i77 : TI := ⟨1, false, Value.nilFunc, (TypeDesc.func #[22] #[66, 25] false), []⟩
theorem ti77 : TIok Try.prog 77 i77 := ⟨Try.sizeOf77, Try.isAgg77, Try.zeroValue77, Try.runUnderlying77, fun fs h => nomatch h⟩
noncomputable abbrev i78 : TI := ⟨1, false, (Value.tuple #[Value.agg #[Value.int IntKind.u32 0, Value.int IntKind.u32 0, Value.int IntKind.u32 0, Value.int IntKind.u32 0, Value.int IntKind.u32 0, Value.int IntKind.u64 0, Value.int IntKind.u64 0, Value.int IntKind.u64 0, Value.string { data := #[] }], Value.int IntKind.i64 0]), (TypeDesc.tuple #[70, 25]), []⟩
theorem ti78 : TIok Try.prog 78 i78 := ⟨Try.sizeOf78, Try.isAgg78, Try.zeroValue78, Try.runUnderlying78, fun fs h => nomatch h⟩
noncomputable abbrev i79 : TI := ⟨1, false, Value.nilFunc, (TypeDesc.func #[9] #[70, 25] false), []⟩
theorem ti79 : TIok Try.prog 79 i79 := ⟨Try.sizeOf79, Try.isAgg79, Try.zeroValue79, Try.runUnderlying79, fun fs h => nomatch h⟩
noncomputable abbrev i80 : TI := ⟨1, false, (Value.int IntKind.u16 0), (TypeDesc.int IntKind.u16), []⟩
theorem ti80 : TIok Try.prog 80 i80 := ⟨Try.sizeOf80, Try.isAgg80, Try.zeroValue80, Try.runUnderlying80, fun fs h => nomatch h⟩
noncomputable abbrev i81 : TI := ⟨1, false, Value.nilFunc, (TypeDesc.func #[66, 80, 22] #[4] false), []⟩
theorem ti81 : TIok Try.prog 81 i81 := ⟨Try.sizeOf81, Try.isAgg81, Try.zeroValue81, Try.runUnderlying81, fun fs h => nomatch h⟩
noncomputable abbrev i82 : TI := ⟨1, false, Value.nilFunc, (TypeDesc.func #[66] #[4] false), []⟩
theorem ti82 : TIok Try.prog 82 i82 := ⟨Try.sizeOf82, Try.isAgg82, Try.zeroValue82, Try.runUnderlying82, fun fs h => nomatch h⟩
noncomputable abbrev i83 : TI := ⟨1, false, Value.nilFunc, (TypeDesc.func #[66, 66, 4] #[4] false), []⟩
theorem ti83 : TIok Try.prog 83 i83 := ⟨Try.sizeOf83, Try.isAgg83, Try.zeroValue83, Try.runUnderlying83, fun fs h => nomatch h⟩
noncomputable abbrev i84 : TI := ⟨1, false, Value.nilFunc, (TypeDesc.func #[22, 5, 5] #[4] false), []⟩
theorem ti84 : TIok Try.prog 84 i84 := ⟨Try.sizeOf84, Try.isAgg84, Try.zeroValue84, Try.runUnderlying84, fun fs h => nomatch h⟩
noncomputable abbrev i85 : TI := ⟨1, false, (Value.pointer none), (TypeDesc.pointer 127), []⟩
theorem ti85 : TIok Try.prog 85 i85 := ⟨Try.sizeOf85, Try.isAgg85, Try.zeroValue85, Try.runUnderlying85, fun fs h => nomatch h⟩
noncomputable abbrev i86 : TI := ⟨1, false, Value.nilFunc, (TypeDesc.func #[22] #[85] false), []⟩
theorem ti86 : TIok Try.prog 86 i86 := ⟨Try.sizeOf86, Try.isAgg86, Try.zeroValue86, Try.runUnderlying86, fun fs h => nomatch h⟩
noncomputable abbrev i87 : TI := ⟨1, false, Value.nilFunc, (TypeDesc.func #[] #[3] false), []⟩
theorem ti87 : TIok Try.prog 87 i87 := ⟨Try.sizeOf87, Try.isAgg87, Try.zeroValue87, Try.runUnderlying87, fun fs h => nomatch h⟩
noncomputable abbrev i88 : TI := ⟨1, false, Value.nilFunc, (TypeDesc.func #[] #[36] false), []⟩
theorem ti88 : TIok Try.prog 88 i88 := ⟨Try.sizeOf88, Try.isAgg88, Try.zeroValue88, Try.runUnderlying88, fun fs h => nomatch h⟩
noncomputable abbrev i89 : TI := ⟨1, false, Value.nilFunc, (TypeDesc.func #[] #[37] false), []⟩
theorem ti89 : TIok Try.prog 89 i89 := ⟨Try.sizeOf89, Try.isAgg89, Try.zeroValue89, Try.runUnderlying89, fun fs h => nomatch h⟩
noncomputable abbrev i90 : TI := ⟨1, false, Value.nilFunc, (TypeDesc.func #[3] #[22] false), []⟩
theorem ti90 : TIok Try.prog 90 i90 := ⟨Try.sizeOf90, Try.isAgg90, Try.zeroValue90, Try.runUnderlying90, fun fs h => nomatch h⟩
noncomputable abbrev i91 : TI := ⟨1, false, Value.nilFunc, (TypeDesc.func #[] #[25] false), []⟩
theorem ti91 : TIok Try.prog 91 i91 := ⟨Try.sizeOf91, Try.isAgg91, Try.zeroValue91, Try.runUnderlying91, fun fs h => nomatch h⟩
noncomputable abbrev i92 : TI := ⟨2, true, (Value.agg #[Value.string { data := #[] }, Value.int IntKind.i64 0]), (TypeDesc.struct #[{ name := "B", type := 9, offset := 0, embedded := false, tag := "", pkgPath := "", byteOffset := 0 }, { name := "E", type := 25, offset := 1, embedded := false, tag := "", pkgPath := "", byteOffset := 16 }]), [(0, 1, false), (1, 1, false)]⟩
theorem ti92 : TIok Try.prog 92 i92 := ⟨Try.sizeOf92, Try.isAgg92, Try.zeroValue92, Try.runUnderlying92, fun fs h => by cases h; exact ⟨rfl, Try.sizeOf9, Try.isAgg9, ⟨rfl, Try.sizeOf25, Try.isAgg25, trivial⟩⟩⟩
noncomputable abbrev i93 : TI := ⟨2, true, (Value.agg #[Value.string { data := #[] }, Value.int IntKind.i64 0]), (TypeDesc.struct #[{ name := "B", type := 9, offset := 0, embedded := false, tag := "", pkgPath := "", byteOffset := 0 }, { name := "E", type := 25, offset := 1, embedded := false, tag := "", pkgPath := "", byteOffset := 16 }]), [(0, 1, false), (1, 1, false)]⟩
theorem ti93 : TIok Try.prog 93 i93 := ⟨Try.sizeOf93, Try.isAgg93, Try.zeroValue93, Try.runUnderlying93, fun fs h => by cases h; exact ⟨rfl, Try.sizeOf9, Try.isAgg9, ⟨rfl, Try.sizeOf25, Try.isAgg25, trivial⟩⟩⟩
noncomputable abbrev i94 : TI := ⟨1, false, (Value.tuple #[Value.agg #[Value.string { data := #[] }, Value.int IntKind.i64 0], Value.int IntKind.u64 0]), (TypeDesc.tuple #[93, 36]), []⟩
theorem ti94 : TIok Try.prog 94 i94 := ⟨Try.sizeOf94, Try.isAgg94, Try.zeroValue94, Try.runUnderlying94, fun fs h => nomatch h⟩
noncomputable abbrev i95 : TI := ⟨1, false, Value.nilFunc, (TypeDesc.func #[93] #[93, 36] false), []⟩
theorem ti95 : TIok Try.prog 95 i95 := ⟨Try.sizeOf95, Try.isAgg95, Try.zeroValue95, Try.runUnderlying95, fun fs h => nomatch h⟩
noncomputable abbrev i96 : TI := ⟨1, false, (Value.tuple #[Value.agg #[Value.string { data := #[] }, Value.int IntKind.i64 0], Value.int IntKind.u32 0]), (TypeDesc.tuple #[93, 37]), []⟩
theorem ti96 : TIok Try.prog 96 i96 := ⟨Try.sizeOf96, Try.isAgg96, Try.zeroValue96, Try.runUnderlying96, fun fs h => nomatch h⟩
noncomputable abbrev i97 : TI := ⟨1, false, Value.nilFunc, (TypeDesc.func #[93] #[93, 37] false), []⟩
theorem ti97 : TIok Try.prog 97 i97 := ⟨Try.sizeOf97, Try.isAgg97, Try.zeroValue97, Try.runUnderlying97, fun fs h => nomatch h⟩
noncomputable abbrev i98 : TI := ⟨1, false, (Value.tuple #[Value.agg #[Value.string { data := #[] }, Value.int IntKind.i64 0], Value.string { data := #[] }]), (TypeDesc.tuple #[93, 9]), []⟩
theorem ti98 : TIok Try.prog 98 i98 := ⟨Try.sizeOf98, Try.isAgg98, Try.zeroValue98, Try.runUnderlying98, fun fs h => nomatch h⟩
noncomputable abbrev i99 : TI := ⟨1, false, Value.nilFunc, (TypeDesc.func #[93, 3] #[93, 9] false), []⟩
theorem ti99 : TIok Try.prog 99 i99 := ⟨Try.sizeOf99, Try.isAgg99, Try.zeroValue99, Try.runUnderlying99, fun fs h => nomatch h⟩
noncomputable abbrev i100 : TI := ⟨1, false, Value.nilFunc, (TypeDesc.func #[28] #[4] false), []⟩
theorem ti100 : TIok Try.prog 100 i100 := ⟨Try.sizeOf100, Try.isAgg100, Try.zeroValue100, Try.runUnderlying100, fun fs h => nomatch h⟩
noncomputable abbrev i101 : TI := ⟨1, false, (Value.pointer none), (TypeDesc.pointer 139), []⟩
theorem ti101 : TIok Try.prog 101 i101 := ⟨Try.sizeOf101, Try.isAgg101, Try.zeroValue101, Try.runUnderlying101, fun fs h => nomatch h⟩
noncomputable abbrev i102 : TI := ⟨1, false, Value.nilFunc, (TypeDesc.func #[] #[101] false), []⟩
theorem ti102 : TIok Try.prog 102 i102 := ⟨Try.sizeOf102, Try.isAgg102, Try.zeroValue102, Try.runUnderlying102, fun fs h => nomatch h⟩
noncomputable abbrev i103 : TI := ⟨1, false, Value.nilFunc, (TypeDesc.func #[36] #[] false), []⟩
theorem ti103 : TIok Try.prog 103 i103 := ⟨Try.sizeOf103, Try.isAgg103, Try.zeroValue103, Try.runUnderlying103, fun fs h => nomatch h⟩
noncomputable abbrev i104 : TI := ⟨1, false, Value.nilFunc, (TypeDesc.func #[37] #[] false), []⟩
theorem ti104 : TIok Try.prog 104 i104 := ⟨Try.sizeOf104, Try.isAgg104, Try.zeroValue104, Try.runUnderlying104, fun fs h => nomatch h⟩
noncomputable abbrev i105 : TI := ⟨1, false, Value.nilFunc, (TypeDesc.func #[22] #[] false), []⟩
theorem ti105 : TIok Try.prog 105 i105 := ⟨Try.sizeOf105, Try.isAgg105, Try.zeroValue105, Try.runUnderlying105, fun fs h => nomatch h⟩
noncomputable abbrev i106 : TI := ⟨1, false, Value.nilFunc, (TypeDesc.func #[] #[22] false), []⟩
theorem ti106 : TIok Try.prog 106 i106 := ⟨Try.sizeOf106, Try.isAgg106, Try.zeroValue106, Try.runUnderlying106, fun fs h => nomatch h⟩
noncomputable abbrev i107 : TI := ⟨1, false, Value.nilFunc, (TypeDesc.func #[36] #[9] false), []⟩
theorem ti107 : TIok Try.prog 107 i107 := ⟨Try.sizeOf107, Try.isAgg107, Try.zeroValue107, Try.runUnderlying107, fun fs h => nomatch h⟩
noncomputable abbrev i108 : TI := ⟨1, false, Value.nilFunc, (TypeDesc.func #[37] #[9] false), []⟩
theorem ti108 : TIok Try.prog 108 i108 := ⟨Try.sizeOf108, Try.isAgg108, Try.zeroValue108, Try.runUnderlying108, fun fs h => nomatch h⟩
noncomputable abbrev i109 : TI := ⟨1, false, Value.nilFunc, (TypeDesc.func #[9] #[9] false), []⟩
theorem ti109 : TIok Try.prog 109 i109 := ⟨Try.sizeOf109, Try.isAgg109, Try.zeroValue109, Try.runUnderlying109, fun fs h => nomatch h⟩
noncomputable abbrev i110 : TI := ⟨1, false, Value.nilFunc, (TypeDesc.func #[9, 9] #[4] false), []⟩
theorem ti110 : TIok Try.prog 110 i110 := ⟨Try.sizeOf110, Try.isAgg110, Try.zeroValue110, Try.runUnderlying110, fun fs h => nomatch h⟩
noncomputable abbrev i111 : TI := ⟨1, false, Value.nilFunc, (TypeDesc.func #[24, 112] #[3] false), []⟩
theorem ti111 : TIok Try.prog 111 i111 := ⟨Try.sizeOf111, Try.isAgg111, Try.zeroValue111, Try.runUnderlying111, fun fs h => nomatch h⟩
noncomputable abbrev i112 : TI := ⟨1, false, Value.nilFunc, (TypeDesc.func #[41] #[4] false), []⟩
theorem ti112 : TIok Try.prog 112 i112 := ⟨Try.sizeOf112, Try.isAgg112, Try.zeroValue112, Try.runUnderlying112, fun fs h => nomatch h⟩
noncomputable abbrev i113 : TI := ⟨1, false, Value.nilFunc, (TypeDesc.func #[24] #[36] false), []⟩
theorem ti113 : TIok Try.prog 113 i113 := ⟨Try.sizeOf113, Try.isAgg113, Try.zeroValue113, Try.runUnderlying113, fun fs h => nomatch h⟩
noncomputable abbrev i114 : TI := ⟨1, false, Value.nilFunc, (TypeDesc.func #[24] #[24] false), []⟩
theorem ti114 : TIok Try.prog 114 i114 := ⟨Try.sizeOf114, Try.isAgg114, Try.zeroValue114, Try.runUnderlying114, fun fs h => nomatch h⟩
noncomputable abbrev i115 : TI := ⟨1, false, Value.nilFunc, (TypeDesc.func #[24, 3, 3] #[24] false), []⟩
theorem ti115 : TIok Try.prog 115 i115 := ⟨Try.sizeOf115, Try.isAgg115, Try.zeroValue115, Try.runUnderlying115, fun fs h => nomatch h⟩
noncomputable abbrev i116 : TI := ⟨1, false, (Value.slice none 0 0), (TypeDesc.slice 37), []⟩
theorem ti116 : TIok Try.prog 116 i116 := ⟨Try.sizeOf116, Try.isAgg116, Try.zeroValue116, Try.runUnderlying116, fun fs h => nomatch h⟩
noncomputable abbrev i117 : TI := ⟨1, false, (Value.slice none 0 0), (TypeDesc.slice 36), []⟩
theorem ti117 : TIok Try.prog 117 i117 := ⟨Try.sizeOf117, Try.isAgg117, Try.zeroValue117, Try.runUnderlying117, fun fs h => nomatch h⟩
noncomputable abbrev i118 : TI := ⟨1, false, Value.nilFunc, (TypeDesc.func #[143] #[4] true), []⟩
theorem ti118 : TIok Try.prog 118 i118 := ⟨Try.sizeOf118, Try.isAgg118, Try.zeroValue118, Try.runUnderlying118, fun fs h => nomatch h⟩
noncomputable abbrev i119 : TI := ⟨1, false, Value.nilFunc, (TypeDesc.func #[22, 22] #[4] false), []⟩
theorem ti119 : TIok Try.prog 119 i119 := ⟨Try.sizeOf119, Try.isAgg119, Try.zeroValue119, Try.runUnderlying119, fun fs h => nomatch h⟩
noncomputable abbrev i120 : TI := ⟨1, false, (Value.pointer none), (TypeDesc.pointer 37), []⟩
theorem ti120 : TIok Try.prog 120 i120 := ⟨Try.sizeOf120, Try.isAgg120, Try.zeroValue120, Try.runUnderlying120, fun fs h => nomatch h⟩
noncomputable abbrev i121 : TI := ⟨1, false, (Value.slice none 0 0), (TypeDesc.slice 120), []⟩
theorem ti121 : TIok Try.prog 121 i121 := ⟨Try.sizeOf121, Try.isAgg121, Try.zeroValue121, Try.runUnderlying121, fun fs h => nomatch h⟩
noncomputable abbrev i122 : TI := ⟨1, false, (Value.pointer none), (TypeDesc.pointer 36), []⟩
theorem ti122 : TIok Try.prog 122 i122 := ⟨Try.sizeOf122, Try.isAgg122, Try.zeroValue122, Try.runUnderlying122, fun fs h => nomatch h⟩
noncomputable abbrev i123 : TI := ⟨1, false, (Value.slice none 0 0), (TypeDesc.slice 122), []⟩
theorem ti123 : TIok Try.prog 123 i123 := ⟨Try.sizeOf123, Try.isAgg123, Try.zeroValue123, Try.runUnderlying123, fun fs h => nomatch h⟩
noncomputable abbrev i124 : TI := ⟨1, false, Value.nilFunc, (TypeDesc.func #[93] #[25] false), []⟩
theorem ti124 : TIok Try.prog 124 i124 := ⟨Try.sizeOf124, Try.isAgg124, Try.zeroValue124, Try.runUnderlying124, fun fs h => nomatch h⟩
noncomputable abbrev i125 : TI := ⟨1, false, Value.nilFunc, (TypeDesc.func #[22] #[22] false), []⟩
theorem ti125 : TIok Try.prog 125 i125 := ⟨Try.sizeOf125, Try.isAgg125, Try.zeroValue125, Try.runUnderlying125, fun fs h => nomatch h⟩
noncomputable abbrev i126 : TI := ⟨2, true, (Value.agg #[Value.slice none 0 0, Value.int IntKind.i64 0]), (TypeDesc.struct #[{ name := "b", type := 22, offset := 0, embedded := false, tag := "", pkgPath := "removalist/xdr", byteOffset := 0 }, { name := "e", type := 25, offset := 1, embedded := false, tag := "", pkgPath := "removalist/xdr", byteOffset := 24 }]), [(0, 1, false), (1, 1, false)]⟩
theorem ti126 : TIok Try.prog 126 i126 := ⟨Try.sizeOf126, Try.isAgg126, Try.zeroValue126, Try.runUnderlying126, fun fs h => by cases h; exact ⟨rfl, Try.sizeOf22, Try.isAgg22, ⟨rfl, Try.sizeOf25, Try.isAgg25, trivial⟩⟩⟩
noncomputable abbrev i127 : TI := ⟨2, true, (Value.agg #[Value.slice none 0 0, Value.int IntKind.i64 0]), (TypeDesc.struct #[{ name := "b", type := 22, offset := 0, embedded := false, tag := "", pkgPath := "removalist/xdr", byteOffset := 0 }, { name := "e", type := 25, offset := 1, embedded := false, tag := "", pkgPath := "removalist/xdr", byteOffset := 24 }]), [(0, 1, false), (1, 1, false)]⟩
theorem ti127 : TIok Try.prog 127 i127 := ⟨Try.sizeOf127, Try.isAgg127, Try.zeroValue127, Try.runUnderlying127, fun fs h => by cases h; exact ⟨rfl, Try.sizeOf22, Try.isAgg22, ⟨rfl, Try.sizeOf25, Try.isAgg25, trivial⟩⟩⟩
noncomputable abbrev i128 : TI := ⟨1, false, Value.nilFunc, (TypeDesc.func #[85, 3] #[36] false), []⟩
theorem ti128 : TIok Try.prog 128 i128 := ⟨Try.sizeOf128, Try.isAgg128, Try.zeroValue128, Try.runUnderlying128, fun fs h => nomatch h⟩
noncomputable abbrev i129 : TI := ⟨1, false, Value.nilFunc, (TypeDesc.func #[85, 3] #[37] false), []⟩
theorem ti129 : TIok Try.prog 129 i129 := ⟨Try.sizeOf129, Try.isAgg129, Try.zeroValue129, Try.runUnderlying129, fun fs h => nomatch h⟩
noncomputable abbrev i130 : TI := ⟨1, false, Value.nilFunc, (TypeDesc.func #[25] #[] false), []⟩
theorem ti130 : TIok Try.prog 130 i130 := ⟨Try.sizeOf130, Try.isAgg130, Try.zeroValue130, Try.runUnderlying130, fun fs h => nomatch h⟩
noncomputable abbrev i131 : TI := ⟨1, false, Value.nilFunc, (TypeDesc.func #[3] #[3] false), []⟩
theorem ti131 : TIok Try.prog 131 i131 := ⟨Try.sizeOf131, Try.isAgg131, Try.zeroValue131, Try.runUnderlying131, fun fs h => nomatch h⟩
noncomputable abbrev i132 : TI := ⟨1, false, Value.nilFunc, (TypeDesc.func #[22, 133] #[4] false), []⟩
theorem ti132 : TIok Try.prog 132 i132 := ⟨Try.sizeOf132, Try.isAgg132, Try.zeroValue132, Try.runUnderlying132, fun fs h => nomatch h⟩
noncomputable abbrev i133 : TI := ⟨1, false, Value.nilFunc, (TypeDesc.func #[5] #[4] false), []⟩
theorem ti133 : TIok Try.prog 133 i133 := ⟨Try.sizeOf133, Try.isAgg133, Try.zeroValue133, Try.runUnderlying133, fun fs h => nomatch h⟩
noncomputable abbrev i134 : TI := ⟨1, false, Value.nilFunc, (TypeDesc.func #[112] #[] false), []⟩
theorem ti134 : TIok Try.prog 134 i134 := ⟨Try.sizeOf134, Try.isAgg134, Try.zeroValue134, Try.runUnderlying134, fun fs h => nomatch h⟩
noncomputable abbrev i135 : TI := ⟨1, false, Value.nilFunc, (TypeDesc.func #[112] #[] false), []⟩
theorem ti135 : TIok Try.prog 135 i135 := ⟨Try.sizeOf135, Try.isAgg135, Try.zeroValue135, Try.runUnderlying135, fun fs h => nomatch h⟩
noncomputable abbrev i136 : TI := ⟨1, false, Value.nilFunc, (TypeDesc.func #[24] #[135] false), []⟩
theorem ti136 : TIok Try.prog 136 i136 := ⟨Try.sizeOf136, Try.isAgg136, Try.zeroValue136, Try.runUnderlying136, fun fs h => nomatch h⟩
noncomputable abbrev i137 : TI := ⟨1, false, Value.nilFunc, (TypeDesc.func #[9] #[36] false), []⟩
theorem ti137 : TIok Try.prog 137 i137 := ⟨Try.sizeOf137, Try.isAgg137, Try.zeroValue137, Try.runUnderlying137, fun fs h => nomatch h⟩
noncomputable abbrev i138 : TI := ⟨1, true, (Value.agg #[Value.slice none 0 0]), (TypeDesc.struct #[{ name := "b", type := 22, offset := 0, embedded := false, tag := "", pkgPath := "removalist/xdr", byteOffset := 0 }]), [(0, 1, false)]⟩
theorem ti138 : TIok Try.prog 138 i138 := ⟨Try.sizeOf138, Try.isAgg138, Try.zeroValue138, Try.runUnderlying138, fun fs h => by cases h; exact ⟨rfl, Try.sizeOf22, Try.isAgg22, trivial⟩⟩
noncomputable abbrev i139 : TI := ⟨1, true, (Value.agg #[Value.slice none 0 0]), (TypeDesc.struct #[{ name := "b", type := 22, offset := 0, embedded := false, tag := "", pkgPath := "removalist/xdr", byteOffset := 0 }]), [(0, 1, false)]⟩
theorem ti139 : TIok Try.prog 139 i139 := ⟨Try.sizeOf139, Try.isAgg139, Try.zeroValue139, Try.runUnderlying139, fun fs h => by cases h; exact ⟨rfl, Try.sizeOf22, Try.isAgg22, trivial⟩⟩
noncomputable abbrev i140 : TI := ⟨1, false, Value.nilFunc, (TypeDesc.func #[101, 36, 3] #[] false), []⟩
theorem ti140 : TIok Try.prog 140 i140 := ⟨Try.sizeOf140, Try.isAgg140, Try.zeroValue140, Try.runUnderlying140, fun fs h => nomatch h⟩
noncomputable abbrev i141 : TI := ⟨1, false, Value.nilFunc, (TypeDesc.func #[101, 37, 3] #[] false), []⟩
theorem ti141 : TIok Try.prog 141 i141 := ⟨Try.sizeOf141, Try.isAgg141, Try.zeroValue141, Try.runUnderlying141, fun fs h => nomatch h⟩
noncomputable abbrev i142 : TI := ⟨1, false, Value.nilFunc, (TypeDesc.func #[9, 9] #[3] false), []⟩
theorem ti142 : TIok Try.prog 142 i142 := ⟨Try.sizeOf142, Try.isAgg142, Try.zeroValue142, Try.runUnderlying142, fun fs h => nomatch h⟩
noncomputable abbrev i143 : TI := ⟨1, false, (Value.slice none 0 0), (TypeDesc.slice 23), []⟩
theorem ti143 : TIok Try.prog 143 i143 := ⟨Try.sizeOf143, Try.isAgg143, Try.zeroValue143, Try.runUnderlying143, fun fs h => nomatch h⟩
noncomputable abbrev i144 : TI := ⟨1, false, Value.nilFunc, (TypeDesc.func #[22, 133] #[3] false), []⟩
theorem ti144 : TIok Try.prog 144 i144 := ⟨Try.sizeOf144, Try.isAgg144, Try.zeroValue144, Try.runUnderlying144, fun fs h => nomatch h⟩
noncomputable abbrev i145 : TI := ⟨1, false, Value.nilFunc, (TypeDesc.func #[9, 21] #[3] false), []⟩
theorem ti145 : TIok Try.prog 145 i145 := ⟨Try.sizeOf145, Try.isAgg145, Try.zeroValue145, Try.runUnderlying145, fun fs h => nomatch h⟩
noncomputable abbrev i146 : TI := ⟨1, false, Value.nilFunc, (TypeDesc.func #[3] #[4] false), []⟩
theorem ti146 : TIok Try.prog 146 i146 := ⟨Try.sizeOf146, Try.isAgg146, Try.zeroValue146, Try.runUnderlying146, fun fs h => nomatch h⟩
noncomputable abbrev i147 : TI := ⟨256, true, (Value.agg Go.Proofs.Try.zeroCells147), (TypeDesc.array 256 4), []⟩
theorem ti147 : TIok Try.prog 147 i147 := ⟨Try.sizeOf147, Try.isAgg147, Try.zeroValue147, Try.runUnderlying147, fun fs h => nomatch h⟩
noncomputable abbrev i148 : TI := ⟨256, true, (Value.agg Go.Proofs.Try.zeroCells148), (TypeDesc.array 256 4), []⟩
theorem ti148 : TIok Try.prog 148 i148 := ⟨Try.sizeOf148, Try.isAgg148, Try.zeroValue148, Try.runUnderlying148, fun fs h => nomatch h⟩
noncomputable abbrev i149 : TI := ⟨1, false, (Value.tuple #[Value.agg (List.toArray (List.append (List.append [Value.bool false, Value.bool false, Value.bool false, Value.bool false, Value.bool false, Value.bool false, Value.bool false, Value.bool false, Value.bool false, Value.bool false, Value.bool false, Value.bool false, Value.bool false, Value.bool false, Value.bool false, Value.bool false, Value.bool false, Value.bool false, Value.bool false, Value.bool false, Value.bool false, Value.bool false, Value.bool false, Value.bool false, Value.bool false, Value.bool false, Value.bool false, Value.bool false, Value.bool false, Value.bool false, Value.bool false, Value.bool false, Value.bool false, Value.bool false, Value.bool false, Value.bool false, Value.bool false, Value.bool false, Value.bool false, Value.bool false, Value.bool false, Value.bool false, Value.bool false, Value.bool false, Value.bool false, Value.bool false, Value.bool false, Value.bool false, Value.bool false, Value.bool false, Value.bool false, Value.bool false, Value.bool false, Value.bool false, Value.bool false, Value.bool false, Value.bool false, Value.bool false, Value.bool false, Value.bool false, Value.bool false, Value.bool false, Value.bool false, Value.bool false] [Value.bool false, Value.bool false, Value.bool false, Value.bool false, Value.bool false, Value.bool false, Value.bool false, Value.bool false, Value.bool false, Value.bool false, Value.bool false, Value.bool false, Value.bool false, Value.bool false, Value.bool false, Value.bool false, Value.bool false, Value.bool false, Value.bool false, Value.bool false, Value.bool false, Value.bool false, Value.bool false, Value.bool false, Value.bool false, Value.bool false, Value.bool false, Value.bool false, Value.bool false, Value.bool false, Value.bool false, Value.bool false, Value.bool false, Value.bool false, Value.bool false, Value.bool false, Value.bool false, Value.bool false, Value.bool false, Value.bool false, Value.bool false, Value.bool false, Value.bool false, Value.bool false, Value.bool false, Value.bool false, Value.bool false, Value.bool false, Value.bool false, Value.bool false, Value.bool false, Value.bool false, Value.bool false, Value.bool false, Value.bool false, Value.bool false, Value.bool false, Value.bool false, Value.bool false, Value.bool false, Value.bool false, Value.bool false, Value.bool false, Value.bool false]) (List.append [Value.bool false, Value.bool false, Value.bool false, Value.bool false, Value.bool false, Value.bool false, Value.bool false, Value.bool false, Value.bool false, Value.bool false, Value.bool false, Value.bool false, Value.bool false, Value.bool false, Value.bool false, Value.bool false, Value.bool false, Value.bool false, Value.bool false, Value.bool false, Value.bool false, Value.bool false, Value.bool false, Value.bool false, Value.bool false, Value.bool false, Value.bool false, Value.bool false, Value.bool false, Value.bool false, Value.bool false, Value.bool false, Value.bool false, Value.bool false, Value.bool false, Value.bool false, Value.bool false, Value.bool false, Value.bool false, Value.bool false, Value.bool false, Value.bool false, Value.bool false, Value.bool false, Value.bool false, Value.bool false, Value.bool false, Value.bool false, Value.bool false, Value.bool false, Value.bool false, Value.bool false, Value.bool false, Value.bool false, Value.bool false, Value.bool false, Value.bool false, Value.bool false, Value.bool false, Value.bool false, Value.bool false, Value.bool false, Value.bool false, Value.bool false] [Value.bool false, Value.bool false, Value.bool false, Value.bool false, Value.bool false, Value.bool false, Value.bool false, Value.bool false, Value.bool false, Value.bool false, Value.bool false, Value.bool false, Value.bool false, Value.bool false, Value.bool false, Value.bool false, Value.bool false, Value.bool false, Value.bool false, Value.bool false, Value.bool false, Value.bool false, Value.bool false, Value.bool false, Value.bool false, Value.bool false, Value.bool false, Value.bool false, Value.bool false, Value.bool false, Value.bool false, Value.bool false, Value.bool false, Value.bool false, Value.bool false, Value.bool false, Value.bool false, Value.bool false, Value.bool false, Value.bool false, Value.bool false, Value.bool false, Value.bool false, Value.bool false, Value.bool false, Value.bool false, Value.bool false, Value.bool false, Value.bool false, Value.bool false, Value.bool false, Value.bool false, Value.bool false, Value.bool false, Value.bool false, Value.bool false, Value.bool false, Value.bool false, Value.bool false, Value.bool false, Value.bool false, Value.bool false, Value.bool false, Value.bool false]))), Value.bool false]), (TypeDesc.tuple #[148, 4]), []⟩
theorem ti149 : TIok Try.prog 149 i149 := ⟨Try.sizeOf149, Try.isAgg149, Try.zeroValue149, Try.runUnderlying149, fun fs h => nomatch h⟩
noncomputable abbrev i150 : TI := ⟨1, false, Value.nilFunc, (TypeDesc.func #[9] #[148, 4] false), []⟩
theorem ti150 : TIok Try.prog 150 i150 := ⟨Try.sizeOf150, Try.isAgg150, Try.zeroValue150, Try.runUnderlying150, fun fs h => nomatch h⟩
noncomputable abbrev i151 : TI := ⟨1, false, Value.nilFunc, (TypeDesc.func #[9, 5] #[3] false), []⟩
theorem ti151 : TIok Try.prog 151 i151 := ⟨Try.sizeOf151, Try.isAgg151, Try.zeroValue151, Try.runUnderlying151, fun fs h => nomatch h⟩
noncomputable abbrev i152 : TI := ⟨1, false, Value.nilFunc, (TypeDesc.func #[21] #[4] false), []⟩
theorem ti152 : TIok Try.prog 152 i152 := ⟨Try.sizeOf152, Try.isAgg152, Try.zeroValue152, Try.runUnderlying152, fun fs h => nomatch h⟩
noncomputable abbrev i153 : TI := ⟨1, false, (Value.pointer none), (TypeDesc.pointer 148), []⟩
theorem ti153 : TIok Try.prog 153 i153 := ⟨Try.sizeOf153, Try.isAgg153, Try.zeroValue153, Try.runUnderlying153, fun fs h => nomatch h⟩
noncomputable abbrev i154 : TI := ⟨1, false, Value.nilFunc, (TypeDesc.func #[] #[9] false), []⟩
theorem ti154 : TIok Try.prog 154 i154 := ⟨Try.sizeOf154, Try.isAgg154, Try.zeroValue154, Try.runUnderlying154, fun fs h => nomatch h⟩
noncomputable abbrev i155 : TI := ⟨4, true, (Value.agg #[Value.pointer none, Value.pointer none, Value.pointer none, Value.string { data := #[] }]), (TypeDesc.struct #[{ name := "_interface", type := 17, offset := 0, embedded := false, tag := "", pkgPath := "runtime", byteOffset := 0 }, { name := "concrete", type := 17, offset := 1, embedded := false, tag := "", pkgPath := "runtime", byteOffset := 8 }, { name := "asserted", type := 17, offset := 2, embedded := false, tag := "", pkgPath := "runtime", byteOffset := 16 }, { name := "missingMethod", type := 9, offset := 3, embedded := false, tag := "", pkgPath := "runtime", byteOffset := 24 }]), [(0, 1, false), (1, 1, false), (2, 1, false), (3, 1, false)]⟩
theorem ti155 : TIok Try.prog 155 i155 := ⟨Try.sizeOf155, Try.isAgg155, Try.zeroValue155, Try.runUnderlying155, fun fs h => by cases h; exact ⟨rfl, Try.sizeOf17, Try.isAgg17, ⟨rfl, Try.sizeOf17, Try.isAgg17, ⟨rfl, Try.sizeOf17, Try.isAgg17, ⟨rfl, Try.sizeOf9, Try.isAgg9, trivial⟩⟩⟩⟩⟩
noncomputable abbrev i156 : TI := ⟨4, true, (Value.agg #[Value.pointer none, Value.pointer none, Value.pointer none, Value.string { data := #[] }]), (TypeDesc.struct #[{ name := "_interface", type := 17, offset := 0, embedded := false, tag := "", pkgPath := "runtime", byteOffset := 0 }, { name := "concrete", type := 17, offset := 1, embedded := false, tag := "", pkgPath := "runtime", byteOffset := 8 }, { name := "asserted", type := 17, offset := 2, embedded := false, tag := "", pkgPath := "runtime", byteOffset := 16 }, { name := "missingMethod", type := 9, offset := 3, embedded := false, tag := "", pkgPath := "runtime", byteOffset := 24 }]), [(0, 1, false), (1, 1, false), (2, 1, false), (3, 1, false)]⟩
theorem ti156 : TIok Try.prog 156 i156 := ⟨Try.sizeOf156, Try.isAgg156, Try.zeroValue156, Try.runUnderlying156, fun fs h => by cases h; exact ⟨rfl, Try.sizeOf17, Try.isAgg17, ⟨rfl, Try.sizeOf17, Try.isAgg17, ⟨rfl, Try.sizeOf17, Try.isAgg17, ⟨rfl, Try.sizeOf9, Try.isAgg9, trivial⟩⟩⟩⟩⟩
noncomputable abbrev i157 : TI := ⟨0, true, (Value.agg #[]), (TypeDesc.array 0 16), []⟩
theorem ti157 : TIok Try.prog 157 i157 := ⟨Try.sizeOf157, Try.isAgg157, Try.zeroValue157, Try.runUnderlying157, fun fs h => nomatch h⟩
noncomputable abbrev i158 : TI := ⟨0, true, (Value.agg #[]), (TypeDesc.struct #[{ name := "_", type := 157, offset := 0, embedded := false, tag := "", pkgPath := "runtime", byteOffset := 0 }]), [(0, 0, true)]⟩
theorem ti158 : TIok Try.prog 158 i158 := ⟨Try.sizeOf158, Try.isAgg158, Try.zeroValue158, Try.runUnderlying158, fun fs h => by cases h; exact ⟨rfl, Try.sizeOf157, Try.isAgg157, trivial⟩⟩
noncomputable abbrev i159 : TI := ⟨0, true, (Value.agg #[]), (TypeDesc.struct #[{ name := "_", type := 157, offset := 0, embedded := false, tag := "", pkgPath := "runtime", byteOffset := 0 }]), [(0, 0, true)]⟩
theorem ti159 : TIok Try.prog 159 i159 := ⟨Try.sizeOf159, Try.isAgg159, Try.zeroValue159, Try.runUnderlying159, fun fs h => by cases h; exact ⟨rfl, Try.sizeOf157, Try.isAgg157, trivial⟩⟩
noncomputable abbrev i160 : TI := ⟨1, false, (Value.int IntKind.u8 0), (TypeDesc.int IntKind.u8), []⟩
theorem ti160 : TIok Try.prog 160 i160 := ⟨Try.sizeOf160, Try.isAgg160, Try.zeroValue160, Try.runUnderlying160, fun fs h => nomatch h⟩
noncomputable abbrev i161 : TI := ⟨1, false, (Value.int IntKind.u8 0), (TypeDesc.int IntKind.u8), []⟩
theorem ti161 : TIok Try.prog 161 i161 := ⟨Try.sizeOf161, Try.isAgg161, Try.zeroValue161, Try.runUnderlying161, fun fs h => nomatch h⟩
noncomputable abbrev i162 : TI := ⟨1, false, Value.nilFunc, (TypeDesc.func #[169, 169] #[4] false), []⟩
theorem ti162 : TIok Try.prog 162 i162 := ⟨Try.sizeOf162, Try.isAgg162, Try.zeroValue162, Try.runUnderlying162, fun fs h => nomatch h⟩
noncomputable abbrev i163 : TI := ⟨1, false, (Value.pointer none), (TypeDesc.pointer 5), []⟩
theorem ti163 : TIok Try.prog 163 i163 := ⟨Try.sizeOf163, Try.isAgg163, Try.zeroValue163, Try.runUnderlying163, fun fs h => nomatch h⟩
noncomputable abbrev i164 : TI := ⟨1, false, (Value.int IntKind.i32 0), (TypeDesc.int IntKind.i32), []⟩
theorem ti164 : TIok Try.prog 164 i164 := ⟨Try.sizeOf164, Try.isAgg164, Try.zeroValue164, Try.runUnderlying164, fun fs h => nomatch h⟩
noncomputable abbrev i165 : TI := ⟨1, false, (Value.int IntKind.i32 0), (TypeDesc.int IntKind.i32), []⟩
theorem ti165 : TIok Try.prog 165 i165 := ⟨Try.sizeOf165, Try.isAgg165, Try.zeroValue165, Try.runUnderlying165, fun fs h => nomatch h⟩
noncomputable abbrev i166 : TI := ⟨11, true, (Value.agg #[Value.int IntKind.u64 0, Value.int IntKind.u64 0, Value.int IntKind.u32 0, Value.int IntKind.u8 0, Value.int IntKind.u8 0, Value.int IntKind.u8 0, Value.int IntKind.u8 0, Value.nilFunc, Value.pointer none, Value.int IntKind.i32 0, Value.int IntKind.i32 0]), (TypeDesc.struct #[{ name := "Size_", type := 12, offset := 0, embedded := false, tag := "", pkgPath := "", byteOffset := 0 }, { name := "PtrBytes", type := 12, offset := 1, embedded := false, tag := "", pkgPath := "", byteOffset := 8 }, { name := "Hash", type := 37, offset := 2, embedded := false, tag := "", pkgPath := "", byteOffset := 16 }, { name := "TFlag", type := 160, offset := 3, embedded := false, tag := "", pkgPath := "", byteOffset := 20 }, { name := "Align_", type := 5, offset := 4, embedded := false, tag := "", pkgPath := "", byteOffset := 21 }, { name := "FieldAlign_", type := 5, offset := 5, embedded := false, tag := "", pkgPath := "", byteOffset := 22 }, { name := "Kind_", type := 161, offset := 6, embedded := false, tag := "", pkgPath := "", byteOffset := 23 }, { name := "Equal", type := 162, offset := 7, embedded := false, tag := "", pkgPath := "", byteOffset := 24 }, { name := "GCData", type := 163, offset := 8, embedded := false, tag := "", pkgPath := "", byteOffset := 32 }, { name := "Str", type := 164, offset := 9, embedded := false, tag := "", pkgPath := "", byteOffset := 40 }, { name := "PtrToThis", type := 165, offset := 10, embedded := false, tag := "", pkgPath := "", byteOffset := 44 }]), [(0, 1, false), (1, 1, false), (2, 1, false), (3, 1, false), (4, 1, false), (5, 1, false), (6, 1, false), (7, 1, false), (8, 1, false), (9, 1, false), (10, 1, false)]⟩
theorem ti166 : TIok Try.prog 166 i166 := ⟨Try.sizeOf166, Try.isAgg166, Try.zeroValue166, Try.runUnderlying166, fun fs h => by cases h; exact ⟨rfl, Try.sizeOf12, Try.isAgg12, ⟨rfl, Try.sizeOf12, Try.isAgg12, ⟨rfl, Try.sizeOf37, Try.isAgg37, ⟨rfl, Try.sizeOf160, Try.isAgg160, ⟨rfl, Try.sizeOf5, Try.isAgg5, ⟨rfl, Try.sizeOf5, Try.isAgg5, ⟨rfl, Try.sizeOf161, Try.isAgg161, ⟨rfl, Try.sizeOf162, Try.isAgg162, ⟨rfl, Try.sizeOf163, Try.isAgg163, ⟨rfl, Try.sizeOf164, Try.isAgg164, ⟨rfl, Try.sizeOf165, Try.isAgg165, trivial⟩⟩⟩⟩⟩⟩⟩⟩⟩⟩⟩⟩
noncomputable abbrev i167 : TI := ⟨11, true, (Value.agg #[Value.int IntKind.u64 0, Value.int IntKind.u64 0, Value.int IntKind.u32 0, Value.int IntKind.u8 0, Value.int IntKind.u8 0, Value.int IntKind.u8 0, Value.int IntKind.u8 0, Value.nilFunc, Value.pointer none, Value.int IntKind.i32 0, Value.int IntKind.i32 0]), (TypeDesc.struct #[{ name := "Size_", type := 12, offset := 0, embedded := false, tag := "", pkgPath := "", byteOffset := 0 }, { name := "PtrBytes", type := 12, offset := 1, embedded := false, tag := "", pkgPath := "", byteOffset := 8 }, { name := "Hash", type := 37, offset := 2, embedded := false, tag := "", pkgPath := "", byteOffset := 16 }, { name := "TFlag", type := 160, offset := 3, embedded := false, tag := "", pkgPath := "", byteOffset := 20 }, { name := "Align_", type := 5, offset := 4, embedded := false, tag := "", pkgPath := "", byteOffset := 21 }, { name := "FieldAlign_", type := 5, offset := 5, embedded := false, tag := "", pkgPath := "", byteOffset := 22 }, { name := "Kind_", type := 161, offset := 6, embedded := false, tag := "", pkgPath := "", byteOffset := 23 }, { name := "Equal", type := 162, offset := 7, embedded := false, tag := "", pkgPath := "", byteOffset := 24 }, { name := "GCData", type := 163, offset := 8, embedded := false, tag := "", pkgPath := "", byteOffset := 32 }, { name := "Str", type := 164, offset := 9, embedded := false, tag := "", pkgPath := "", byteOffset := 40 }, { name := "PtrToThis", type := 165, offset := 10, embedded := false, tag := "", pkgPath := "", byteOffset := 44 }]), [(0, 1, false), (1, 1, false), (2, 1, false), (3, 1, false), (4, 1, false), (5, 1, false), (6, 1, false), (7, 1, false), (8, 1, false), (9, 1, false), (10, 1, false)]⟩
theorem ti167 : TIok Try.prog 167 i167 := ⟨Try.sizeOf167, Try.isAgg167, Try.zeroValue167, Try.runUnderlying167, fun fs h => by cases h; exact ⟨rfl, Try.sizeOf12, Try.isAgg12, ⟨rfl, Try.sizeOf12, Try.isAgg12, ⟨rfl, Try.sizeOf37, Try.isAgg37, ⟨rfl, Try.sizeOf160, Try.isAgg160, ⟨rfl, Try.sizeOf5, Try.isAgg5, ⟨rfl, Try.sizeOf5, Try.isAgg5, ⟨rfl, Try.sizeOf161, Try.isAgg161, ⟨rfl, Try.sizeOf162, Try.isAgg162, ⟨rfl, Try.sizeOf163, Try.isAgg163, ⟨rfl, Try.sizeOf164, Try.isAgg164, ⟨rfl, Try.sizeOf165, Try.isAgg165, trivial⟩⟩⟩⟩⟩⟩⟩⟩⟩⟩⟩⟩
noncomputable abbrev i168 : TI := ⟨1, false, Value.nilFunc, (TypeDesc.func #[4] #[] false), []⟩
theorem ti168 : TIok Try.prog 168 i168 := ⟨Try.sizeOf168, Try.isAgg168, Try.zeroValue168, Try.runUnderlying168, fun fs h => nomatch h⟩
noncomputable abbrev i169 : TI := ⟨1, false, (Value.pointer none), TypeDesc.unsafePointer, []⟩
theorem ti169 : TIok Try.prog 169 i169 := ⟨Try.sizeOf169, Try.isAgg169, Try.zeroValue169, Try.runUnderlying169, fun fs h => nomatch h⟩
noncomputable def te : List (Nat × TI) := [(0, i0), (1, i1), (2, i2), (3, i3), (4, i4), (5, i5), (6, i6), (7, i7), (8, i8), (9, i9), (10, i10), (11, i11), (12, i12), (13, i13), (14, i14), (15, i15), (16, i16), (17, i17), (18, i18), (19, i19), (20, i20), (21, i21), (22, i22), (23, i23), (24, i24), (25, i25), (26, i26), (27, i27), (28, i28), (29, i29), (30, i30), (31, i31), (32, i32), (33, i33), (34, i34), (35, i35), (36, i36), (37, i37), (38, i38), (39, i39), (40, i40), (41, i41), (42, i42), (43, i43), (44, i44), (45, i45), (46, i46), (47, i47), (48, i48), (49, i49), (50, i50), (51, i51), (52, i52), (53, i53), (54, i54), (55, i55), (56, i56), (57, i57), (58, i58), (59, i59), (60, i60), (61, i61), (62, i62), (63, i63), (64, i64), (65, i65), (66, i66), (67, i67), (68, i68), (69, i69), (70, i70), (71, i71), (72, i72), (73, i73), (74, i74), (75, i75), (76, i76), (77, i77), (78, i78), (79, i79), (80, i80), (81, i81), (82, i82), (83, i83), (84, i84), (85, i85), (86, i86), (87, i87), (88, i88), (89, i89), (90, i90), (91, i91), (92, i92), (93, i93), (94, i94), (95, i95), (96, i96), (97, i97), (98, i98), (99, i99), (100, i100), (101, i101), (102, i102), (103, i103), (104, i104), (105, i105), (106, i106), (107, i107), (108, i108), (109, i109), (110, i110), (111, i111), (112, i112), (113, i113), (114, i114), (115, i115), (116, i116), (117, i117), (118, i118), (119, i119), (120, i120), (121, i121), (122, i122), (123, i123), (124, i124), (125, i125), (126, i126), (127, i127), (128, i128), (129, i129), (130, i130), (131, i131), (132, i132), (133, i133), (134, i134), (135, i135), (136, i136), (137, i137), (138, i138), (139, i139), (140, i140), (141, i141), (142, i142), (143, i143), (144, i144), (145, i145), (146, i146), (147, i147), (148, i148), (149, i149), (150, i150), (151, i151), (152, i152), (153, i153), (154, i154), (155, i155), (156, i156), (157, i157), (158, i158), (159, i159), (160, i160), (161, i161), (162, i162), (163, i163), (164, i164), (165, i165), (166, i166), (167, i167), (168, i168), (169, i169)]
set_option maxRecDepth 100000 in
theorem te_all : AllOk Try.prog te := ⟨ti0, ⟨ti1, ⟨ti2, ⟨ti3, ⟨ti4, ⟨ti5, ⟨ti6, ⟨ti7, ⟨ti8, ⟨ti9, ⟨ti10, ⟨ti11, ⟨ti12, ⟨ti13, ⟨ti14, ⟨ti15, ⟨ti16, ⟨ti17, ⟨ti18, ⟨ti19, ⟨ti20, ⟨ti21, ⟨ti22, ⟨ti23, ⟨ti24, ⟨ti25, ⟨ti26, ⟨ti27, ⟨ti28, ⟨ti29, ⟨ti30, ⟨ti31, ⟨ti32, ⟨ti33, ⟨ti34, ⟨ti35, ⟨ti36, ⟨ti37, ⟨ti38, ⟨ti39, ⟨ti40, ⟨ti41, ⟨ti42, ⟨ti43, ⟨ti44, ⟨ti45, ⟨ti46, ⟨ti47, ⟨ti48, ⟨ti49, ⟨ti50, ⟨ti51, ⟨ti52, ⟨ti53, ⟨ti54, ⟨ti55, ⟨ti56, ⟨ti57, ⟨ti58, ⟨ti59, ⟨ti60, ⟨ti61, ⟨ti62, ⟨ti63, ⟨ti64, ⟨ti65, ⟨ti66, ⟨ti67, ⟨ti68, ⟨ti69, ⟨ti70, ⟨ti71, ⟨ti72, ⟨ti73, ⟨ti74, ⟨ti75, ⟨ti76, ⟨ti77, ⟨ti78, ⟨ti79, ⟨ti80, ⟨ti81, ⟨ti82, ⟨ti83, ⟨ti84, ⟨ti85, ⟨ti86, ⟨ti87, ⟨ti88, ⟨ti89, ⟨ti90, ⟨ti91, ⟨ti92, ⟨ti93, ⟨ti94, ⟨ti95, ⟨ti96, ⟨ti97, ⟨ti98, ⟨ti99, ⟨ti100, ⟨ti101, ⟨ti102, ⟨ti103, ⟨ti104, ⟨ti105, ⟨ti106, ⟨ti107, ⟨ti108, ⟨ti109, ⟨ti110, ⟨ti111, ⟨ti112, ⟨ti113, ⟨ti114, ⟨ti115, ⟨ti116, ⟨ti117, ⟨ti118, ⟨ti119, ⟨ti120, ⟨ti121, ⟨ti122, ⟨ti123, ⟨ti124, ⟨ti125, ⟨ti126, ⟨ti127, ⟨ti128, ⟨ti129, ⟨ti130, ⟨ti131, ⟨ti132, ⟨ti133, ⟨ti134, ⟨ti135, ⟨ti136, ⟨ti137, ⟨ti138, ⟨ti139, ⟨ti140, ⟨ti141, ⟨ti142, ⟨ti143, ⟨ti144, ⟨ti145, ⟨ti146, ⟨ti147, ⟨ti148, ⟨ti149, ⟨ti150, ⟨ti151, ⟨ti152, ⟨ti153, ⟨ti154, ⟨ti155, ⟨ti156, ⟨ti157, ⟨ti158, ⟨ti159, ⟨ti160, ⟨ti161, ⟨ti162, ⟨ti163, ⟨ti164, ⟨ti165, ⟨ti166, ⟨ti167, ⟨ti168, ⟨ti169, trivial⟩⟩⟩⟩⟩⟩⟩⟩⟩⟩⟩⟩⟩⟩⟩⟩⟩⟩⟩⟩⟩⟩⟩⟩⟩⟩⟩⟩⟩⟩⟩⟩⟩⟩⟩⟩⟩⟩⟩⟩⟩⟩⟩⟩⟩⟩⟩⟩⟩⟩⟩⟩⟩⟩⟩⟩⟩⟩⟩⟩⟩⟩⟩⟩⟩⟩⟩⟩⟩⟩⟩⟩⟩⟩⟩⟩⟩⟩⟩⟩⟩⟩⟩⟩⟩⟩⟩⟩⟩⟩⟩⟩⟩⟩⟩⟩⟩⟩⟩⟩⟩⟩⟩⟩⟩⟩⟩⟩⟩⟩⟩⟩⟩⟩⟩⟩⟩⟩⟩⟩⟩⟩⟩⟩⟩⟩⟩⟩⟩⟩⟩⟩⟩⟩⟩⟩⟩⟩⟩⟩⟩⟩⟩⟩⟩⟩⟩⟩⟩⟩⟩⟩⟩⟩⟩⟩⟩⟩⟩⟩⟩⟩⟩⟩⟩⟩⟩⟩⟩⟩
instance teOk : TOk Try.prog te := ⟨te_all.mem⟩
instance mixedOk : Mixed Try.prog := ⟨by kernel_rfl⟩
end Go.Proofs.Ytlpjchighfdomaa.Sx
