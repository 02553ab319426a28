/- Facts on the types. Written by mkfacts.py. -/
import Derived.Test.YtdajoilaakiinaaGreatDoorMB
import Derived.Test.YtdajoilaakiinaaGreatDoorProg
namespace Go.Proofs.YtdajoilaakiinaaGreatDoor.Awp
open Go Go.Proofs
set_option maxRecDepth 10000
@[push_cast] theorem ti_2 : ti Tryz.prog 2 = some (1, false) := by kernel_rfl
@[push_cast] theorem tint_2 : tint Tryz.prog 2 = some IntKind.i64 := by kernel_rfl
@[push_cast] theorem tstr_2 : tstr Tryz.prog 2 = false := by kernel_rfl
@[push_cast] theorem tbool_2 : tbool Tryz.prog 2 = false := by kernel_rfl
@[push_cast] theorem tptr_2 : tptr Tryz.prog 2 = false := by kernel_rfl
@[push_cast] theorem tfunc_2 : tfunc Tryz.prog 2 = false := by kernel_rfl
@[push_cast] theorem telem_2 : telem Tryz.prog 2 = none := by kernel_rfl
@[push_cast] theorem tarr_2 : tarr Tryz.prog 2 = none := by kernel_rfl
@[push_cast] theorem tsz_2 : tsz Tryz.prog 2 = 1 := by kernel_rfl
@[push_cast] theorem tagg_2 : tagg Tryz.prog 2 = false := by kernel_rfl
@[push_cast] theorem tbytes_2 : tbytes Tryz.prog 2 = 8 := by kernel_rfl
@[push_cast] theorem tzero_2 : tzero Tryz.prog 2 = some [PV.int IntKind.i64 0] := by kernel_rfl
@[push_cast] theorem ti_3 : ti Tryz.prog 3 = some (1, false) := by kernel_rfl
@[push_cast] theorem tint_3 : tint Tryz.prog 3 = some IntKind.i64 := by kernel_rfl
@[push_cast] theorem tstr_3 : tstr Tryz.prog 3 = false := by kernel_rfl
@[push_cast] theorem tbool_3 : tbool Tryz.prog 3 = false := by kernel_rfl
@[push_cast] theorem tptr_3 : tptr Tryz.prog 3 = false := by kernel_rfl
@[push_cast] theorem tfunc_3 : tfunc Tryz.prog 3 = false := by kernel_rfl
@[push_cast] theorem telem_3 : telem Tryz.prog 3 = none := by kernel_rfl
@[push_cast] theorem tarr_3 : tarr Tryz.prog 3 = none := by kernel_rfl
@[push_cast] theorem tsz_3 : tsz Tryz.prog 3 = 1 := by kernel_rfl
@[push_cast] theorem tagg_3 : tagg Tryz.prog 3 = false := by kernel_rfl
@[push_cast] theorem tbytes_3 : tbytes Tryz.prog 3 = 8 := by kernel_rfl
@[push_cast] theorem tzero_3 : tzero Tryz.prog 3 = some [PV.int IntKind.i64 0] := by kernel_rfl
@[push_cast] theorem ti_4 : ti Tryz.prog 4 = some (1, false) := by kernel_rfl
@[push_cast] theorem tint_4 : tint Tryz.prog 4 = none := by kernel_rfl
@[push_cast] theorem tstr_4 : tstr Tryz.prog 4 = false := by kernel_rfl
@[push_cast] theorem tbool_4 : tbool Tryz.prog 4 = true := by kernel_rfl
@[push_cast] theorem tptr_4 : tptr Tryz.prog 4 = false := by kernel_rfl
@[push_cast] theorem tfunc_4 : tfunc Tryz.prog 4 = false := by kernel_rfl
@[push_cast] theorem telem_4 : telem Tryz.prog 4 = none := by kernel_rfl
@[push_cast] theorem tarr_4 : tarr Tryz.prog 4 = none := by kernel_rfl
@[push_cast] theorem tsz_4 : tsz Tryz.prog 4 = 1 := by kernel_rfl
@[push_cast] theorem tagg_4 : tagg Tryz.prog 4 = false := by kernel_rfl
@[push_cast] theorem tbytes_4 : tbytes Tryz.prog 4 = 1 := by kernel_rfl
@[push_cast] theorem tzero_4 : tzero Tryz.prog 4 = some [PV.bool false] := by kernel_rfl
@[push_cast] theorem ti_5 : ti Tryz.prog 5 = some (1, false) := by kernel_rfl
@[push_cast] theorem tint_5 : tint Tryz.prog 5 = some IntKind.u8 := by kernel_rfl
@[push_cast] theorem tstr_5 : tstr Tryz.prog 5 = false := by kernel_rfl
@[push_cast] theorem tbool_5 : tbool Tryz.prog 5 = false := by kernel_rfl
@[push_cast] theorem tptr_5 : tptr Tryz.prog 5 = false := by kernel_rfl
@[push_cast] theorem tfunc_5 : tfunc Tryz.prog 5 = false := by kernel_rfl
@[push_cast] theorem telem_5 : telem Tryz.prog 5 = none := by kernel_rfl
@[push_cast] theorem tarr_5 : tarr Tryz.prog 5 = none := by kernel_rfl
@[push_cast] theorem tsz_5 : tsz Tryz.prog 5 = 1 := by kernel_rfl
@[push_cast] theorem tagg_5 : tagg Tryz.prog 5 = false := by kernel_rfl
@[push_cast] theorem tbytes_5 : tbytes Tryz.prog 5 = 1 := by kernel_rfl
@[push_cast] theorem tzero_5 : tzero Tryz.prog 5 = some [PV.int IntKind.u8 0] := by kernel_rfl
@[push_cast] theorem ti_9 : ti Tryz.prog 9 = some (1, false) := by kernel_rfl
@[push_cast] theorem tint_9 : tint Tryz.prog 9 = none := by kernel_rfl
@[push_cast] theorem tstr_9 : tstr Tryz.prog 9 = true := by kernel_rfl
@[push_cast] theorem tbool_9 : tbool Tryz.prog 9 = false := by kernel_rfl
@[push_cast] theorem tptr_9 : tptr Tryz.prog 9 = false := by kernel_rfl
@[push_cast] theorem tfunc_9 : tfunc Tryz.prog 9 = false := by kernel_rfl
@[push_cast] theorem telem_9 : telem Tryz.prog 9 = none := by kernel_rfl
@[push_cast] theorem tarr_9 : tarr Tryz.prog 9 = none := by kernel_rfl
@[push_cast] theorem tsz_9 : tsz Tryz.prog 9 = 1 := by kernel_rfl
@[push_cast] theorem tagg_9 : tagg Tryz.prog 9 = false := by kernel_rfl
@[push_cast] theorem tbytes_9 : tbytes Tryz.prog 9 = 16 := by kernel_rfl
@[push_cast] theorem tzero_9 : tzero Tryz.prog 9 = some [PV.str { data := { toList := [] } }] := by kernel_rfl
@[push_cast] theorem ti_22 : ti Tryz.prog 22 = some (1, false) := by kernel_rfl
@[push_cast] theorem tint_22 : tint Tryz.prog 22 = none := by kernel_rfl
@[push_cast] theorem tstr_22 : tstr Tryz.prog 22 = false := by kernel_rfl
@[push_cast] theorem tbool_22 : tbool Tryz.prog 22 = false := by kernel_rfl
@[push_cast] theorem tptr_22 : tptr Tryz.prog 22 = false := by kernel_rfl
@[push_cast] theorem tfunc_22 : tfunc Tryz.prog 22 = false := by kernel_rfl
@[push_cast] theorem telem_22 : telem Tryz.prog 22 = some 34 := by kernel_rfl
@[push_cast] theorem tarr_22 : tarr Tryz.prog 22 = none := by kernel_rfl
@[push_cast] theorem tsz_22 : tsz Tryz.prog 22 = 1 := by kernel_rfl
@[push_cast] theorem tagg_22 : tagg Tryz.prog 22 = false := by kernel_rfl
@[push_cast] theorem tbytes_22 : tbytes Tryz.prog 22 = 24 := by kernel_rfl
@[push_cast] theorem tzero_22 : tzero Tryz.prog 22 = some [PV.nil] := by kernel_rfl
@[push_cast] theorem ti_25 : ti Tryz.prog 25 = some (1, false) := by kernel_rfl
@[push_cast] theorem tint_25 : tint Tryz.prog 25 = none := by kernel_rfl
@[push_cast] theorem tstr_25 : tstr Tryz.prog 25 = false := by kernel_rfl
@[push_cast] theorem tbool_25 : tbool Tryz.prog 25 = false := by kernel_rfl
@[push_cast] theorem tptr_25 : tptr Tryz.prog 25 = false := by kernel_rfl
@[push_cast] theorem tfunc_25 : tfunc Tryz.prog 25 = false := by kernel_rfl
@[push_cast] theorem telem_25 : telem Tryz.prog 25 = some 50 := by kernel_rfl
@[push_cast] theorem tarr_25 : tarr Tryz.prog 25 = none := by kernel_rfl
@[push_cast] theorem tsz_25 : tsz Tryz.prog 25 = 1 := by kernel_rfl
@[push_cast] theorem tagg_25 : tagg Tryz.prog 25 = false := by kernel_rfl
@[push_cast] theorem tbytes_25 : tbytes Tryz.prog 25 = 24 := by kernel_rfl
@[push_cast] theorem tzero_25 : tzero Tryz.prog 25 = some [PV.nil] := by kernel_rfl
@[push_cast] theorem ti_27 : ti Tryz.prog 27 = some (2, true) := by kernel_rfl
@[push_cast] theorem tint_27 : tint Tryz.prog 27 = none := by kernel_rfl
@[push_cast] theorem tstr_27 : tstr Tryz.prog 27 = false := by kernel_rfl
@[push_cast] theorem tbool_27 : tbool Tryz.prog 27 = false := by kernel_rfl
@[push_cast] theorem tptr_27 : tptr Tryz.prog 27 = false := by kernel_rfl
@[push_cast] theorem tfunc_27 : tfunc Tryz.prog 27 = false := by kernel_rfl
@[push_cast] theorem telem_27 : telem Tryz.prog 27 = none := by kernel_rfl
@[push_cast] theorem tarr_27 : tarr Tryz.prog 27 = none := by kernel_rfl
@[push_cast] theorem tsz_27 : tsz Tryz.prog 27 = 2 := by kernel_rfl
@[push_cast] theorem tagg_27 : tagg Tryz.prog 27 = true := by kernel_rfl
@[push_cast] theorem tbytes_27 : tbytes Tryz.prog 27 = 16 := by kernel_rfl
@[push_cast] theorem tzero_27 : tzero Tryz.prog 27 = some [PV.int IntKind.i64 0, PV.int IntKind.i64 0] := by kernel_rfl
@[push_cast] theorem tpl_27 : tpl Tryz.prog 27 = some [(0, 1), (1, 1)] := by kernel_rfl
@[push_cast] theorem tfld0_27 : tfld Tryz.prog 27 0 = some (0, 3) := by kernel_rfl
@[push_cast] theorem tfld1_27 : tfld Tryz.prog 27 1 = some (1, 3) := by kernel_rfl
@[push_cast] theorem ti_29 : ti Tryz.prog 29 = some (4, true) := by kernel_rfl
@[push_cast] theorem tint_29 : tint Tryz.prog 29 = none := by kernel_rfl
@[push_cast] theorem tstr_29 : tstr Tryz.prog 29 = false := by kernel_rfl
@[push_cast] theorem tbool_29 : tbool Tryz.prog 29 = false := by kernel_rfl
@[push_cast] theorem tptr_29 : tptr Tryz.prog 29 = false := by kernel_rfl
@[push_cast] theorem tfunc_29 : tfunc Tryz.prog 29 = false := by kernel_rfl
@[push_cast] theorem telem_29 : telem Tryz.prog 29 = none := by kernel_rfl
@[push_cast] theorem tarr_29 : tarr Tryz.prog 29 = none := by kernel_rfl
@[push_cast] theorem tsz_29 : tsz Tryz.prog 29 = 4 := by kernel_rfl
@[push_cast] theorem tagg_29 : tagg Tryz.prog 29 = true := by kernel_rfl
@[push_cast] theorem tbytes_29 : tbytes Tryz.prog 29 = 48 := by kernel_rfl
@[push_cast] theorem tzero_29 : tzero Tryz.prog 29 = some [PV.nil, PV.int IntKind.i64 0, PV.int IntKind.i64 0, PV.int IntKind.i64 0] := by kernel_rfl
@[push_cast] theorem tpl_29 : tpl Tryz.prog 29 = some [(0, 1), (1, 2), (3, 1)] := by kernel_rfl
@[push_cast] theorem tfld0_29 : tfld Tryz.prog 29 0 = some (0, 25) := by kernel_rfl
@[push_cast] theorem tfld1_29 : tfld Tryz.prog 29 1 = some (1, 27) := by kernel_rfl
@[push_cast] theorem tfld2_29 : tfld Tryz.prog 29 2 = some (3, 3) := by kernel_rfl
@[push_cast] theorem ti_30 : ti Tryz.prog 30 = some (1, false) := by kernel_rfl
@[push_cast] theorem tint_30 : tint Tryz.prog 30 = some IntKind.i64 := by kernel_rfl
@[push_cast] theorem tstr_30 : tstr Tryz.prog 30 = false := by kernel_rfl
@[push_cast] theorem tbool_30 : tbool Tryz.prog 30 = false := by kernel_rfl
@[push_cast] theorem tptr_30 : tptr Tryz.prog 30 = false := by kernel_rfl
@[push_cast] theorem tfunc_30 : tfunc Tryz.prog 30 = false := by kernel_rfl
@[push_cast] theorem telem_30 : telem Tryz.prog 30 = none := by kernel_rfl
@[push_cast] theorem tarr_30 : tarr Tryz.prog 30 = none := by kernel_rfl
@[push_cast] theorem tsz_30 : tsz Tryz.prog 30 = 1 := by kernel_rfl
@[push_cast] theorem tagg_30 : tagg Tryz.prog 30 = false := by kernel_rfl
@[push_cast] theorem tbytes_30 : tbytes Tryz.prog 30 = 8 := by kernel_rfl
@[push_cast] theorem tzero_30 : tzero Tryz.prog 30 = some [PV.int IntKind.i64 0] := by kernel_rfl
@[push_cast] theorem ti_34 : ti Tryz.prog 34 = some (7, true) := by kernel_rfl
@[push_cast] theorem tint_34 : tint Tryz.prog 34 = none := by kernel_rfl
@[push_cast] theorem tstr_34 : tstr Tryz.prog 34 = false := by kernel_rfl
@[push_cast] theorem tbool_34 : tbool Tryz.prog 34 = false := by kernel_rfl
@[push_cast] theorem tptr_34 : tptr Tryz.prog 34 = false := by kernel_rfl
@[push_cast] theorem tfunc_34 : tfunc Tryz.prog 34 = false := by kernel_rfl
@[push_cast] theorem telem_34 : telem Tryz.prog 34 = none := by kernel_rfl
@[push_cast] theorem tarr_34 : tarr Tryz.prog 34 = none := by kernel_rfl
@[push_cast] theorem tsz_34 : tsz Tryz.prog 34 = 7 := by kernel_rfl
@[push_cast] theorem tagg_34 : tagg Tryz.prog 34 = true := by kernel_rfl
@[push_cast] theorem tbytes_34 : tbytes Tryz.prog 34 = 72 := by kernel_rfl
@[push_cast] theorem tpl_34 : tpl Tryz.prog 34 = some [(0, 1), (1, 1), (2, 1), (3, 1), (4, 2), (6, 1)] := by kernel_rfl
@[push_cast] theorem tfld0_34 : tfld Tryz.prog 34 0 = some (0, 9) := by kernel_rfl
@[push_cast] theorem tfld1_34 : tfld Tryz.prog 34 1 = some (1, 9) := by kernel_rfl
@[push_cast] theorem tfld2_34 : tfld Tryz.prog 34 2 = some (2, 3) := by kernel_rfl
@[push_cast] theorem tfld3_34 : tfld Tryz.prog 34 3 = some (3, 4) := by kernel_rfl
@[push_cast] theorem tfld4_34 : tfld Tryz.prog 34 4 = some (4, 27) := by kernel_rfl
@[push_cast] theorem tfld5_34 : tfld Tryz.prog 34 5 = some (6, 30) := by kernel_rfl
@[push_cast] theorem ti_39 : ti Tryz.prog 39 = some (1, false) := by kernel_rfl
@[push_cast] theorem tint_39 : tint Tryz.prog 39 = none := by kernel_rfl
@[push_cast] theorem tstr_39 : tstr Tryz.prog 39 = false := by kernel_rfl
@[push_cast] theorem tbool_39 : tbool Tryz.prog 39 = false := by kernel_rfl
@[push_cast] theorem tptr_39 : tptr Tryz.prog 39 = false := by kernel_rfl
@[push_cast] theorem tfunc_39 : tfunc Tryz.prog 39 = false := by kernel_rfl
@[push_cast] theorem telem_39 : telem Tryz.prog 39 = some 9 := by kernel_rfl
@[push_cast] theorem tarr_39 : tarr Tryz.prog 39 = none := by kernel_rfl
@[push_cast] theorem tsz_39 : tsz Tryz.prog 39 = 1 := by kernel_rfl
@[push_cast] theorem tagg_39 : tagg Tryz.prog 39 = false := by kernel_rfl
@[push_cast] theorem tbytes_39 : tbytes Tryz.prog 39 = 24 := by kernel_rfl
@[push_cast] theorem tzero_39 : tzero Tryz.prog 39 = some [PV.nil] := by kernel_rfl
@[push_cast] theorem ti_50 : ti Tryz.prog 50 = some (3, true) := by kernel_rfl
@[push_cast] theorem tint_50 : tint Tryz.prog 50 = none := by kernel_rfl
@[push_cast] theorem tstr_50 : tstr Tryz.prog 50 = false := by kernel_rfl
@[push_cast] theorem tbool_50 : tbool Tryz.prog 50 = false := by kernel_rfl
@[push_cast] theorem tptr_50 : tptr Tryz.prog 50 = false := by kernel_rfl
@[push_cast] theorem tfunc_50 : tfunc Tryz.prog 50 = false := by kernel_rfl
@[push_cast] theorem telem_50 : telem Tryz.prog 50 = none := by kernel_rfl
@[push_cast] theorem tarr_50 : tarr Tryz.prog 50 = none := by kernel_rfl
@[push_cast] theorem tsz_50 : tsz Tryz.prog 50 = 3 := by kernel_rfl
@[push_cast] theorem tagg_50 : tagg Tryz.prog 50 = true := by kernel_rfl
@[push_cast] theorem tbytes_50 : tbytes Tryz.prog 50 = 32 := by kernel_rfl
@[push_cast] theorem tzero_50 : tzero Tryz.prog 50 = some [PV.str { data := { toList := [] } }, PV.int IntKind.i64 0, PV.int IntKind.i64 0] := by kernel_rfl
@[push_cast] theorem tpl_50 : tpl Tryz.prog 50 = some [(0, 1), (1, 2)] := by kernel_rfl
@[push_cast] theorem tfld0_50 : tfld Tryz.prog 50 0 = some (0, 9) := by kernel_rfl
@[push_cast] theorem tfld1_50 : tfld Tryz.prog 50 1 = some (1, 27) := by kernel_rfl
@[push_cast] theorem ti_57 : ti Tryz.prog 57 = some (1, false) := by kernel_rfl
@[push_cast] theorem tint_57 : tint Tryz.prog 57 = none := by kernel_rfl
@[push_cast] theorem tstr_57 : tstr Tryz.prog 57 = false := by kernel_rfl
@[push_cast] theorem tbool_57 : tbool Tryz.prog 57 = false := by kernel_rfl
@[push_cast] theorem tptr_57 : tptr Tryz.prog 57 = true := by kernel_rfl
@[push_cast] theorem tfunc_57 : tfunc Tryz.prog 57 = false := by kernel_rfl
@[push_cast] theorem telem_57 : telem Tryz.prog 57 = none := by kernel_rfl
@[push_cast] theorem tarr_57 : tarr Tryz.prog 57 = none := by kernel_rfl
@[push_cast] theorem tsz_57 : tsz Tryz.prog 57 = 1 := by kernel_rfl
@[push_cast] theorem tagg_57 : tagg Tryz.prog 57 = false := by kernel_rfl
@[push_cast] theorem tbytes_57 : tbytes Tryz.prog 57 = 8 := by kernel_rfl
@[push_cast] theorem tzero_57 : tzero Tryz.prog 57 = some [PV.nilp] := by kernel_rfl
@[push_cast] theorem ti_59 : ti Tryz.prog 59 = some (6, true) := by kernel_rfl
@[push_cast] theorem tint_59 : tint Tryz.prog 59 = none := by kernel_rfl
@[push_cast] theorem tstr_59 : tstr Tryz.prog 59 = false := by kernel_rfl
@[push_cast] theorem tbool_59 : tbool Tryz.prog 59 = false := by kernel_rfl
@[push_cast] theorem tptr_59 : tptr Tryz.prog 59 = false := by kernel_rfl
@[push_cast] theorem tfunc_59 : tfunc Tryz.prog 59 = false := by kernel_rfl
@[push_cast] theorem telem_59 : telem Tryz.prog 59 = none := by kernel_rfl
@[push_cast] theorem tarr_59 : tarr Tryz.prog 59 = none := by kernel_rfl
@[push_cast] theorem tsz_59 : tsz Tryz.prog 59 = 6 := by kernel_rfl
@[push_cast] theorem tagg_59 : tagg Tryz.prog 59 = true := by kernel_rfl
@[push_cast] theorem tbytes_59 : tbytes Tryz.prog 59 = 80 := by kernel_rfl
@[push_cast] theorem tzero_59 : tzero Tryz.prog 59 = some [PV.nil, PV.nil, PV.int IntKind.i64 0, PV.int IntKind.i64 0, PV.int IntKind.i64 0, PV.bool false] := by kernel_rfl
@[push_cast] theorem tpl_59 : tpl Tryz.prog 59 = some [(0, 1), (1, 4), (5, 1)] := by kernel_rfl
@[push_cast] theorem tfld0_59 : tfld Tryz.prog 59 0 = some (0, 22) := by kernel_rfl
@[push_cast] theorem tfld1_59 : tfld Tryz.prog 59 1 = some (1, 29) := by kernel_rfl
@[push_cast] theorem tfld2_59 : tfld Tryz.prog 59 2 = some (5, 4) := by kernel_rfl
@[push_cast] theorem ti_60 : ti Tryz.prog 60 = some (1, false) := by kernel_rfl
@[push_cast] theorem tint_60 : tint Tryz.prog 60 = none := by kernel_rfl
@[push_cast] theorem tstr_60 : tstr Tryz.prog 60 = false := by kernel_rfl
@[push_cast] theorem tbool_60 : tbool Tryz.prog 60 = false := by kernel_rfl
@[push_cast] theorem tptr_60 : tptr Tryz.prog 60 = false := by kernel_rfl
@[push_cast] theorem tfunc_60 : tfunc Tryz.prog 60 = true := by kernel_rfl
@[push_cast] theorem telem_60 : telem Tryz.prog 60 = none := by kernel_rfl
@[push_cast] theorem tarr_60 : tarr Tryz.prog 60 = none := by kernel_rfl
@[push_cast] theorem tsz_60 : tsz Tryz.prog 60 = 1 := by kernel_rfl
@[push_cast] theorem tagg_60 : tagg Tryz.prog 60 = false := by kernel_rfl
@[push_cast] theorem tbytes_60 : tbytes Tryz.prog 60 = 8 := by kernel_rfl
@[push_cast] theorem tzero_60 : tzero Tryz.prog 60 = some [PV.nilfn] := by kernel_rfl
@[push_cast] theorem ti_62 : ti Tryz.prog 62 = some (2, true) := by kernel_rfl
@[push_cast] theorem tint_62 : tint Tryz.prog 62 = none := by kernel_rfl
@[push_cast] theorem tstr_62 : tstr Tryz.prog 62 = false := by kernel_rfl
@[push_cast] theorem tbool_62 : tbool Tryz.prog 62 = false := by kernel_rfl
@[push_cast] theorem tptr_62 : tptr Tryz.prog 62 = false := by kernel_rfl
@[push_cast] theorem tfunc_62 : tfunc Tryz.prog 62 = false := by kernel_rfl
@[push_cast] theorem telem_62 : telem Tryz.prog 62 = none := by kernel_rfl
@[push_cast] theorem tarr_62 : tarr Tryz.prog 62 = none := by kernel_rfl
@[push_cast] theorem tsz_62 : tsz Tryz.prog 62 = 2 := by kernel_rfl
@[push_cast] theorem tagg_62 : tagg Tryz.prog 62 = true := by kernel_rfl
@[push_cast] theorem tbytes_62 : tbytes Tryz.prog 62 = 16 := by kernel_rfl
@[push_cast] theorem tzero_62 : tzero Tryz.prog 62 = some [PV.int IntKind.i64 0, PV.nilfn] := by kernel_rfl
@[push_cast] theorem tpl_62 : tpl Tryz.prog 62 = some [(0, 1), (1, 1)] := by kernel_rfl
@[push_cast] theorem tfld0_62 : tfld Tryz.prog 62 0 = some (0, 3) := by kernel_rfl
@[push_cast] theorem tfld1_62 : tfld Tryz.prog 62 1 = some (1, 60) := by kernel_rfl
@[push_cast] theorem ti_63 : ti Tryz.prog 63 = some (8, true) := by kernel_rfl
@[push_cast] theorem tint_63 : tint Tryz.prog 63 = none := by kernel_rfl
@[push_cast] theorem tstr_63 : tstr Tryz.prog 63 = false := by kernel_rfl
@[push_cast] theorem tbool_63 : tbool Tryz.prog 63 = false := by kernel_rfl
@[push_cast] theorem tptr_63 : tptr Tryz.prog 63 = false := by kernel_rfl
@[push_cast] theorem tfunc_63 : tfunc Tryz.prog 63 = false := by kernel_rfl
@[push_cast] theorem telem_63 : telem Tryz.prog 63 = none := by kernel_rfl
@[push_cast] theorem tarr_63 : tarr Tryz.prog 63 = some (4, 62) := by kernel_rfl
@[push_cast] theorem tsz_63 : tsz Tryz.prog 63 = 8 := by kernel_rfl
@[push_cast] theorem tagg_63 : tagg Tryz.prog 63 = true := by kernel_rfl
@[push_cast] theorem tbytes_63 : tbytes Tryz.prog 63 = 64 := by kernel_rfl
@[push_cast] theorem ti_68 : ti Tryz.prog 68 = some (1, false) := by kernel_rfl
@[push_cast] theorem tint_68 : tint Tryz.prog 68 = none := by kernel_rfl
@[push_cast] theorem tstr_68 : tstr Tryz.prog 68 = false := by kernel_rfl
@[push_cast] theorem tbool_68 : tbool Tryz.prog 68 = false := by kernel_rfl
@[push_cast] theorem tptr_68 : tptr Tryz.prog 68 = false := by kernel_rfl
@[push_cast] theorem tfunc_68 : tfunc Tryz.prog 68 = false := by kernel_rfl
@[push_cast] theorem telem_68 : telem Tryz.prog 68 = some 3 := by kernel_rfl
@[push_cast] theorem tarr_68 : tarr Tryz.prog 68 = none := by kernel_rfl
@[push_cast] theorem tsz_68 : tsz Tryz.prog 68 = 1 := by kernel_rfl
@[push_cast] theorem tagg_68 : tagg Tryz.prog 68 = false := by kernel_rfl
@[push_cast] theorem tbytes_68 : tbytes Tryz.prog 68 = 24 := by kernel_rfl
@[push_cast] theorem tzero_68 : tzero Tryz.prog 68 = some [PV.nil] := by kernel_rfl
@[push_cast] theorem ti_73 : ti Tryz.prog 73 = some (1, false) := by kernel_rfl
@[push_cast] theorem tint_73 : tint Tryz.prog 73 = none := by kernel_rfl
@[push_cast] theorem tstr_73 : tstr Tryz.prog 73 = false := by kernel_rfl
@[push_cast] theorem tbool_73 : tbool Tryz.prog 73 = false := by kernel_rfl
@[push_cast] theorem tptr_73 : tptr Tryz.prog 73 = false := by kernel_rfl
@[push_cast] theorem tfunc_73 : tfunc Tryz.prog 73 = true := by kernel_rfl
@[push_cast] theorem telem_73 : telem Tryz.prog 73 = none := by kernel_rfl
@[push_cast] theorem tarr_73 : tarr Tryz.prog 73 = none := by kernel_rfl
@[push_cast] theorem tsz_73 : tsz Tryz.prog 73 = 1 := by kernel_rfl
@[push_cast] theorem tagg_73 : tagg Tryz.prog 73 = false := by kernel_rfl
@[push_cast] theorem tbytes_73 : tbytes Tryz.prog 73 = 8 := by kernel_rfl
@[push_cast] theorem tzero_73 : tzero Tryz.prog 73 = some [PV.nilfn] := by kernel_rfl
@[push_cast] theorem ti_76 : ti Tryz.prog 76 = some (1, false) := by kernel_rfl
@[push_cast] theorem tint_76 : tint Tryz.prog 76 = none := by kernel_rfl
@[push_cast] theorem tstr_76 : tstr Tryz.prog 76 = false := by kernel_rfl
@[push_cast] theorem tbool_76 : tbool Tryz.prog 76 = false := by kernel_rfl
@[push_cast] theorem tptr_76 : tptr Tryz.prog 76 = false := by kernel_rfl
@[push_cast] theorem tfunc_76 : tfunc Tryz.prog 76 = false := by kernel_rfl
@[push_cast] theorem telem_76 : telem Tryz.prog 76 = some 27 := by kernel_rfl
@[push_cast] theorem tarr_76 : tarr Tryz.prog 76 = none := by kernel_rfl
@[push_cast] theorem tsz_76 : tsz Tryz.prog 76 = 1 := by kernel_rfl
@[push_cast] theorem tagg_76 : tagg Tryz.prog 76 = false := by kernel_rfl
@[push_cast] theorem tbytes_76 : tbytes Tryz.prog 76 = 24 := by kernel_rfl
@[push_cast] theorem tzero_76 : tzero Tryz.prog 76 = some [PV.nil] := by kernel_rfl
@[push_cast] theorem ti_92 : ti Tryz.prog 92 = some (1, false) := by kernel_rfl
@[push_cast] theorem tint_92 : tint Tryz.prog 92 = none := by kernel_rfl
@[push_cast] theorem tstr_92 : tstr Tryz.prog 92 = false := by kernel_rfl
@[push_cast] theorem tbool_92 : tbool Tryz.prog 92 = false := by kernel_rfl
@[push_cast] theorem tptr_92 : tptr Tryz.prog 92 = false := by kernel_rfl
@[push_cast] theorem tfunc_92 : tfunc Tryz.prog 92 = false := by kernel_rfl
@[push_cast] theorem telem_92 : telem Tryz.prog 92 = some 94 := by kernel_rfl
@[push_cast] theorem tarr_92 : tarr Tryz.prog 92 = none := by kernel_rfl
@[push_cast] theorem tsz_92 : tsz Tryz.prog 92 = 1 := by kernel_rfl
@[push_cast] theorem tagg_92 : tagg Tryz.prog 92 = false := by kernel_rfl
@[push_cast] theorem tbytes_92 : tbytes Tryz.prog 92 = 24 := by kernel_rfl
@[push_cast] theorem tzero_92 : tzero Tryz.prog 92 = some [PV.nil] := by kernel_rfl
@[push_cast] theorem ti_94 : ti Tryz.prog 94 = some (6, true) := by kernel_rfl
@[push_cast] theorem tint_94 : tint Tryz.prog 94 = none := by kernel_rfl
@[push_cast] theorem tstr_94 : tstr Tryz.prog 94 = false := by kernel_rfl
@[push_cast] theorem tbool_94 : tbool Tryz.prog 94 = false := by kernel_rfl
@[push_cast] theorem tptr_94 : tptr Tryz.prog 94 = false := by kernel_rfl
@[push_cast] theorem tfunc_94 : tfunc Tryz.prog 94 = false := by kernel_rfl
@[push_cast] theorem telem_94 : telem Tryz.prog 94 = none := by kernel_rfl
@[push_cast] theorem tarr_94 : tarr Tryz.prog 94 = none := by kernel_rfl
@[push_cast] theorem tsz_94 : tsz Tryz.prog 94 = 6 := by kernel_rfl
@[push_cast] theorem tagg_94 : tagg Tryz.prog 94 = true := by kernel_rfl
@[push_cast] theorem tbytes_94 : tbytes Tryz.prog 94 = 72 := by kernel_rfl
@[push_cast] theorem tpl_94 : tpl Tryz.prog 94 = some [(0, 1), (1, 1), (2, 2), (4, 1), (5, 1)] := by kernel_rfl
@[push_cast] theorem tfld0_94 : tfld Tryz.prog 94 0 = some (0, 3) := by kernel_rfl
@[push_cast] theorem tfld1_94 : tfld Tryz.prog 94 1 = some (1, 9) := by kernel_rfl
@[push_cast] theorem tfld2_94 : tfld Tryz.prog 94 2 = some (2, 27) := by kernel_rfl
@[push_cast] theorem tfld3_94 : tfld Tryz.prog 94 3 = some (4, 3) := by kernel_rfl
@[push_cast] theorem tfld4_94 : tfld Tryz.prog 94 4 = some (5, 92) := by kernel_rfl
@[push_cast] theorem ti_97 : ti Tryz.prog 97 = some (1, false) := by kernel_rfl
@[push_cast] theorem tint_97 : tint Tryz.prog 97 = none := by kernel_rfl
@[push_cast] theorem tstr_97 : tstr Tryz.prog 97 = false := by kernel_rfl
@[push_cast] theorem tbool_97 : tbool Tryz.prog 97 = false := by kernel_rfl
@[push_cast] theorem tptr_97 : tptr Tryz.prog 97 = false := by kernel_rfl
@[push_cast] theorem tfunc_97 : tfunc Tryz.prog 97 = true := by kernel_rfl
@[push_cast] theorem telem_97 : telem Tryz.prog 97 = none := by kernel_rfl
@[push_cast] theorem tarr_97 : tarr Tryz.prog 97 = none := by kernel_rfl
@[push_cast] theorem tsz_97 : tsz Tryz.prog 97 = 1 := by kernel_rfl
@[push_cast] theorem tagg_97 : tagg Tryz.prog 97 = false := by kernel_rfl
@[push_cast] theorem tbytes_97 : tbytes Tryz.prog 97 = 8 := by kernel_rfl
@[push_cast] theorem tzero_97 : tzero Tryz.prog 97 = some [PV.nilfn] := by kernel_rfl
@[push_cast] theorem ti_107 : ti Tryz.prog 107 = some (1, false) := by kernel_rfl
@[push_cast] theorem tint_107 : tint Tryz.prog 107 = none := by kernel_rfl
@[push_cast] theorem tstr_107 : tstr Tryz.prog 107 = false := by kernel_rfl
@[push_cast] theorem tbool_107 : tbool Tryz.prog 107 = false := by kernel_rfl
@[push_cast] theorem tptr_107 : tptr Tryz.prog 107 = false := by kernel_rfl
@[push_cast] theorem tfunc_107 : tfunc Tryz.prog 107 = false := by kernel_rfl
@[push_cast] theorem telem_107 : telem Tryz.prog 107 = some 5 := by kernel_rfl
@[push_cast] theorem tarr_107 : tarr Tryz.prog 107 = none := by kernel_rfl
@[push_cast] theorem tsz_107 : tsz Tryz.prog 107 = 1 := by kernel_rfl
@[push_cast] theorem tagg_107 : tagg Tryz.prog 107 = false := by kernel_rfl
@[push_cast] theorem tbytes_107 : tbytes Tryz.prog 107 = 24 := by kernel_rfl
@[push_cast] theorem tzero_107 : tzero Tryz.prog 107 = some [PV.nil] := by kernel_rfl
@[push_cast] theorem ti_110 : ti Tryz.prog 110 = some (1, false) := by kernel_rfl
@[push_cast] theorem tint_110 : tint Tryz.prog 110 = none := by kernel_rfl
@[push_cast] theorem tstr_110 : tstr Tryz.prog 110 = false := by kernel_rfl
@[push_cast] theorem tbool_110 : tbool Tryz.prog 110 = false := by kernel_rfl
@[push_cast] theorem tptr_110 : tptr Tryz.prog 110 = false := by kernel_rfl
@[push_cast] theorem tfunc_110 : tfunc Tryz.prog 110 = false := by kernel_rfl
@[push_cast] theorem telem_110 : telem Tryz.prog 110 = none := by kernel_rfl
@[push_cast] theorem tarr_110 : tarr Tryz.prog 110 = none := by kernel_rfl
@[push_cast] theorem tsz_110 : tsz Tryz.prog 110 = 1 := by kernel_rfl
@[push_cast] theorem tagg_110 : tagg Tryz.prog 110 = false := by kernel_rfl
@[push_cast] theorem tbytes_110 : tbytes Tryz.prog 110 = 8 := by kernel_rfl
@[push_cast] theorem tzero_110 : tzero Tryz.prog 110 = some [PV.nilmap] := by kernel_rfl
@[push_cast] theorem ti_125 : ti Tryz.prog 125 = some (1, false) := by kernel_rfl
@[push_cast] theorem tint_125 : tint Tryz.prog 125 = none := by kernel_rfl
@[push_cast] theorem tstr_125 : tstr Tryz.prog 125 = false := by kernel_rfl
@[push_cast] theorem tbool_125 : tbool Tryz.prog 125 = false := by kernel_rfl
@[push_cast] theorem tptr_125 : tptr Tryz.prog 125 = true := by kernel_rfl
@[push_cast] theorem tfunc_125 : tfunc Tryz.prog 125 = false := by kernel_rfl
@[push_cast] theorem telem_125 : telem Tryz.prog 125 = none := by kernel_rfl
@[push_cast] theorem tarr_125 : tarr Tryz.prog 125 = none := by kernel_rfl
@[push_cast] theorem tsz_125 : tsz Tryz.prog 125 = 1 := by kernel_rfl
@[push_cast] theorem tagg_125 : tagg Tryz.prog 125 = false := by kernel_rfl
@[push_cast] theorem tbytes_125 : tbytes Tryz.prog 125 = 8 := by kernel_rfl
@[push_cast] theorem tzero_125 : tzero Tryz.prog 125 = some [PV.nilp] := by kernel_rfl
@[push_cast] theorem ti_127 : ti Tryz.prog 127 = some (2, true) := by kernel_rfl
@[push_cast] theorem tint_127 : tint Tryz.prog 127 = none := by kernel_rfl
@[push_cast] theorem tstr_127 : tstr Tryz.prog 127 = false := by kernel_rfl
@[push_cast] theorem tbool_127 : tbool Tryz.prog 127 = false := by kernel_rfl
@[push_cast] theorem tptr_127 : tptr Tryz.prog 127 = false := by kernel_rfl
@[push_cast] theorem tfunc_127 : tfunc Tryz.prog 127 = false := by kernel_rfl
@[push_cast] theorem telem_127 : telem Tryz.prog 127 = none := by kernel_rfl
@[push_cast] theorem tarr_127 : tarr Tryz.prog 127 = none := by kernel_rfl
@[push_cast] theorem tsz_127 : tsz Tryz.prog 127 = 2 := by kernel_rfl
@[push_cast] theorem tagg_127 : tagg Tryz.prog 127 = true := by kernel_rfl
@[push_cast] theorem tbytes_127 : tbytes Tryz.prog 127 = 32 := by kernel_rfl
@[push_cast] theorem tzero_127 : tzero Tryz.prog 127 = some [PV.nilp, PV.nil] := by kernel_rfl
@[push_cast] theorem tpl_127 : tpl Tryz.prog 127 = some [(0, 1), (1, 1)] := by kernel_rfl
@[push_cast] theorem tfld0_127 : tfld Tryz.prog 127 0 = some (0, 125) := by kernel_rfl
@[push_cast] theorem tfld1_127 : tfld Tryz.prog 127 1 = some (1, 107) := by kernel_rfl
@[push_cast] theorem ti_134 : ti Tryz.prog 134 = some (1, false) := by kernel_rfl
@[push_cast] theorem tint_134 : tint Tryz.prog 134 = none := by kernel_rfl
@[push_cast] theorem tstr_134 : tstr Tryz.prog 134 = false := by kernel_rfl
@[push_cast] theorem tbool_134 : tbool Tryz.prog 134 = false := by kernel_rfl
@[push_cast] theorem tptr_134 : tptr Tryz.prog 134 = false := by kernel_rfl
@[push_cast] theorem tfunc_134 : tfunc Tryz.prog 134 = false := by kernel_rfl
@[push_cast] theorem telem_134 : telem Tryz.prog 134 = some 39 := by kernel_rfl
@[push_cast] theorem tarr_134 : tarr Tryz.prog 134 = none := by kernel_rfl
@[push_cast] theorem tsz_134 : tsz Tryz.prog 134 = 1 := by kernel_rfl
@[push_cast] theorem tagg_134 : tagg Tryz.prog 134 = false := by kernel_rfl
@[push_cast] theorem tbytes_134 : tbytes Tryz.prog 134 = 24 := by kernel_rfl
@[push_cast] theorem tzero_134 : tzero Tryz.prog 134 = some [PV.nil] := by kernel_rfl
@[push_cast] theorem ti_138 : ti Tryz.prog 138 = some (1, false) := by kernel_rfl
@[push_cast] theorem tint_138 : tint Tryz.prog 138 = some IntKind.u64 := by kernel_rfl
@[push_cast] theorem tstr_138 : tstr Tryz.prog 138 = false := by kernel_rfl
@[push_cast] theorem tbool_138 : tbool Tryz.prog 138 = false := by kernel_rfl
@[push_cast] theorem tptr_138 : tptr Tryz.prog 138 = false := by kernel_rfl
@[push_cast] theorem tfunc_138 : tfunc Tryz.prog 138 = false := by kernel_rfl
@[push_cast] theorem telem_138 : telem Tryz.prog 138 = none := by kernel_rfl
@[push_cast] theorem tarr_138 : tarr Tryz.prog 138 = none := by kernel_rfl
@[push_cast] theorem tsz_138 : tsz Tryz.prog 138 = 1 := by kernel_rfl
@[push_cast] theorem tagg_138 : tagg Tryz.prog 138 = false := by kernel_rfl
@[push_cast] theorem tbytes_138 : tbytes Tryz.prog 138 = 8 := by kernel_rfl
@[push_cast] theorem tzero_138 : tzero Tryz.prog 138 = some [PV.int IntKind.u64 0] := by kernel_rfl
@[push_cast] theorem ti_148 : ti Tryz.prog 148 = some (1, false) := by kernel_rfl
@[push_cast] theorem tint_148 : tint Tryz.prog 148 = some IntKind.u32 := by kernel_rfl
@[push_cast] theorem tstr_148 : tstr Tryz.prog 148 = false := by kernel_rfl
@[push_cast] theorem tbool_148 : tbool Tryz.prog 148 = false := by kernel_rfl
@[push_cast] theorem tptr_148 : tptr Tryz.prog 148 = false := by kernel_rfl
@[push_cast] theorem tfunc_148 : tfunc Tryz.prog 148 = false := by kernel_rfl
@[push_cast] theorem telem_148 : telem Tryz.prog 148 = none := by kernel_rfl
@[push_cast] theorem tarr_148 : tarr Tryz.prog 148 = none := by kernel_rfl
@[push_cast] theorem tsz_148 : tsz Tryz.prog 148 = 1 := by kernel_rfl
@[push_cast] theorem tagg_148 : tagg Tryz.prog 148 = false := by kernel_rfl
@[push_cast] theorem tbytes_148 : tbytes Tryz.prog 148 = 4 := by kernel_rfl
@[push_cast] theorem tzero_148 : tzero Tryz.prog 148 = some [PV.int IntKind.u32 0] := by kernel_rfl
@[push_cast] theorem ti_150 : ti Tryz.prog 150 = some (1, false) := by kernel_rfl
@[push_cast] theorem tint_150 : tint Tryz.prog 150 = some IntKind.u64 := by kernel_rfl
@[push_cast] theorem tstr_150 : tstr Tryz.prog 150 = false := by kernel_rfl
@[push_cast] theorem tbool_150 : tbool Tryz.prog 150 = false := by kernel_rfl
@[push_cast] theorem tptr_150 : tptr Tryz.prog 150 = false := by kernel_rfl
@[push_cast] theorem tfunc_150 : tfunc Tryz.prog 150 = false := by kernel_rfl
@[push_cast] theorem telem_150 : telem Tryz.prog 150 = none := by kernel_rfl
@[push_cast] theorem tarr_150 : tarr Tryz.prog 150 = none := by kernel_rfl
@[push_cast] theorem tsz_150 : tsz Tryz.prog 150 = 1 := by kernel_rfl
@[push_cast] theorem tagg_150 : tagg Tryz.prog 150 = false := by kernel_rfl
@[push_cast] theorem tbytes_150 : tbytes Tryz.prog 150 = 8 := by kernel_rfl
@[push_cast] theorem tzero_150 : tzero Tryz.prog 150 = some [PV.int IntKind.u64 0] := by kernel_rfl
@[push_cast] theorem tzero_34 : tzero Tryz.prog 34 = some [PV.str { data := { toList := [] } }, PV.str { data := { toList := [] } }, PV.int IntKind.i64 0, PV.bool false, PV.int IntKind.i64 0, PV.int IntKind.i64 0, PV.int IntKind.i64 0] := by kernel_rfl
@[push_cast] theorem tzero_63 : tzero Tryz.prog 63 = some [PV.int IntKind.i64 0, PV.nilfn, PV.int IntKind.i64 0, PV.nilfn, PV.int IntKind.i64 0, PV.nilfn, PV.int IntKind.i64 0, PV.nilfn] := by kernel_rfl
end Go.Proofs.YtdajoilaakiinaaGreatDoor.Awp
