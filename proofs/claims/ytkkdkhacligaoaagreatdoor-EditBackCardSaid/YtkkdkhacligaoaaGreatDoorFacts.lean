/- Facts about the types, by the kernel. -/
import Derived.Test.YtkkdkhacligaoaaGreatDoorTyp
namespace Go.Proofs.YtkkdkhacligaoaaGreatDoor.law
open Go.PI
theorem sz_1 : szOf C0 1 = some 1 := by kernel_rfl
theorem ag_1 : aggO C0 1 = some false := by kernel_rfl
theorem zp_1 : zeroP C0 1 = some [(.s .nilFunc)] := by kernel_rfl
theorem sz_2 : szOf C0 2 = some 1 := by kernel_rfl
theorem ag_2 : aggO C0 2 = some false := by kernel_rfl
theorem kd_2 : kindP C0 2 = some .i64 := by kernel_rfl
theorem zp_2 : zeroP C0 2 = some [(i64P 0)] := by kernel_rfl
theorem by_2 : bytesOf C0 2 = some 8 := by kernel_rfl
theorem sz_3 : szOf C0 3 = some 1 := by kernel_rfl
theorem ag_3 : aggO C0 3 = some false := by kernel_rfl
theorem kd_3 : kindP C0 3 = some .i64 := by kernel_rfl
theorem zp_3 : zeroP C0 3 = some [(i64P 0)] := by kernel_rfl
theorem by_3 : bytesOf C0 3 = some 8 := by kernel_rfl
theorem sz_4 : szOf C0 4 = some 1 := by kernel_rfl
theorem ag_4 : aggO C0 4 = some false := by kernel_rfl
theorem zp_4 : zeroP C0 4 = some [(boolP false)] := by kernel_rfl
theorem by_4 : bytesOf C0 4 = some 1 := by kernel_rfl
theorem sz_5 : szOf C0 5 = some 1 := by kernel_rfl
theorem ag_5 : aggO C0 5 = some false := by kernel_rfl
theorem kd_5 : kindP C0 5 = some .u8 := by kernel_rfl
theorem zp_5 : zeroP C0 5 = some [(.s (.int .u8 0))] := by kernel_rfl
theorem by_5 : bytesOf C0 5 = some 1 := by kernel_rfl
theorem sz_6 : szOf C0 6 = some 1 := by kernel_rfl
theorem ag_6 : aggO C0 6 = some false := by kernel_rfl
theorem kd_6 : kindP C0 6 = some .u8 := by kernel_rfl
theorem zp_6 : zeroP C0 6 = some [(.s (.int .u8 0))] := by kernel_rfl
theorem by_6 : bytesOf C0 6 = some 1 := by kernel_rfl
theorem sz_7 : szOf C0 7 = some 4 := by kernel_rfl
theorem ag_7 : aggO C0 7 = some true := by kernel_rfl
theorem fd_7_0 : fieldP C0 7 0 = some (0, 2) := by kernel_rfl
theorem fd_7_1 : fieldP C0 7 1 = some (1, 3) := by kernel_rfl
theorem fd_7_2 : fieldP C0 7 2 = some (2, 4) := by kernel_rfl
theorem fd_7_3 : fieldP C0 7 3 = some (3, 6) := by kernel_rfl
theorem pl_7 : placesP C0 7 = some [(0, 1), (1, 1), (2, 1), (3, 1)] := by kernel_rfl
theorem zp_7 : zeroP C0 7 = some [(i64P 0), (i64P 0), (boolP false), (.s (.int .u8 0))] := by kernel_rfl
theorem by_7 : bytesOf C0 7 = some 24 := by kernel_rfl
theorem sz_8 : szOf C0 8 = some 4 := by kernel_rfl
theorem ag_8 : aggO C0 8 = some true := by kernel_rfl
theorem fd_8_0 : fieldP C0 8 0 = some (0, 2) := by kernel_rfl
theorem fd_8_1 : fieldP C0 8 1 = some (1, 3) := by kernel_rfl
theorem fd_8_2 : fieldP C0 8 2 = some (2, 4) := by kernel_rfl
theorem fd_8_3 : fieldP C0 8 3 = some (3, 6) := by kernel_rfl
theorem pl_8 : placesP C0 8 = some [(0, 1), (1, 1), (2, 1), (3, 1)] := by kernel_rfl
theorem zp_8 : zeroP C0 8 = some [(i64P 0), (i64P 0), (boolP false), (.s (.int .u8 0))] := by kernel_rfl
theorem by_8 : bytesOf C0 8 = some 24 := by kernel_rfl
theorem sz_9 : szOf C0 9 = some 1 := by kernel_rfl
theorem ag_9 : aggO C0 9 = some false := by kernel_rfl
theorem kd_9 : kindP C0 9 = none := by kernel_rfl
theorem st_9 : strT C0 9 = true := by kernel_rfl
theorem sz_10 : szOf C0 10 = some 1 := by kernel_rfl
theorem ag_10 : aggO C0 10 = some false := by kernel_rfl
theorem kd_10 : kindP C0 10 = none := by kernel_rfl
theorem st_10 : strT C0 10 = true := by kernel_rfl
theorem sz_11 : szOf C0 11 = some 1 := by kernel_rfl
theorem ag_11 : aggO C0 11 = some false := by kernel_rfl
theorem kd_11 : kindP C0 11 = none := by kernel_rfl
theorem st_11 : strT C0 11 = true := by kernel_rfl
theorem sz_12 : szOf C0 12 = some 1 := by kernel_rfl
theorem ag_12 : aggO C0 12 = some false := by kernel_rfl
theorem kd_12 : kindP C0 12 = some .u64 := by kernel_rfl
theorem zp_12 : zeroP C0 12 = some [(.s (.int .u64 0))] := by kernel_rfl
theorem by_12 : bytesOf C0 12 = some 8 := by kernel_rfl
theorem sz_13 : szOf C0 13 = some 2 := by kernel_rfl
theorem ag_13 : aggO C0 13 = some true := by kernel_rfl
theorem fd_13_0 : fieldP C0 13 0 = some (0, 9) := by kernel_rfl
theorem fd_13_1 : fieldP C0 13 1 = some (1, 12) := by kernel_rfl
theorem pl_13 : placesP C0 13 = some [(0, 1), (1, 1)] := by kernel_rfl
theorem by_13 : bytesOf C0 13 = some 24 := by kernel_rfl
theorem sz_14 : szOf C0 14 = some 2 := by kernel_rfl
theorem ag_14 : aggO C0 14 = some true := by kernel_rfl
theorem fd_14_0 : fieldP C0 14 0 = some (0, 9) := by kernel_rfl
theorem fd_14_1 : fieldP C0 14 1 = some (1, 12) := by kernel_rfl
theorem pl_14 : placesP C0 14 = some [(0, 1), (1, 1)] := by kernel_rfl
theorem by_14 : bytesOf C0 14 = some 24 := by kernel_rfl
theorem sz_15 : szOf C0 15 = some 1 := by kernel_rfl
theorem ag_15 : aggO C0 15 = some false := by kernel_rfl
theorem sz_16 : szOf C0 16 = some 1 := by kernel_rfl
theorem ag_16 : aggO C0 16 = some false := by kernel_rfl
theorem sz_17 : szOf C0 17 = some 1 := by kernel_rfl
theorem ag_17 : aggO C0 17 = some false := by kernel_rfl
theorem sz_18 : szOf C0 18 = some 1 := by kernel_rfl
theorem ag_18 : aggO C0 18 = some true := by kernel_rfl
theorem fd_18_0 : fieldP C0 18 0 = some (0, 17) := by kernel_rfl
theorem pl_18 : placesP C0 18 = some [(0, 1)] := by kernel_rfl
theorem sz_19 : szOf C0 19 = some 1 := by kernel_rfl
theorem ag_19 : aggO C0 19 = some true := by kernel_rfl
theorem fd_19_0 : fieldP C0 19 0 = some (0, 17) := by kernel_rfl
theorem pl_19 : placesP C0 19 = some [(0, 1)] := by kernel_rfl
theorem sz_21 : szOf C0 21 = some 1 := by kernel_rfl
theorem ag_21 : aggO C0 21 = some false := by kernel_rfl
theorem kd_21 : kindP C0 21 = some .i32 := by kernel_rfl
theorem zp_21 : zeroP C0 21 = some [(.s (.int .i32 0))] := by kernel_rfl
theorem by_21 : bytesOf C0 21 = some 4 := by kernel_rfl
theorem sz_22 : szOf C0 22 = some 1 := by kernel_rfl
theorem ag_22 : aggO C0 22 = some false := by kernel_rfl
theorem el_22 : elemP C0 22 = some 37 := by kernel_rfl
theorem kn_22 : kindP C0 22 = none := by kernel_rfl
theorem zp_22 : zeroP C0 22 = some [nilS] := by kernel_rfl
theorem by_22 : bytesOf C0 22 = some 24 := by kernel_rfl
theorem sz_23 : szOf C0 23 = some 1 := by kernel_rfl
theorem ag_23 : aggO C0 23 = some false := by kernel_rfl
theorem el_23 : elemP C0 23 = some 5 := by kernel_rfl
theorem kn_23 : kindP C0 23 = none := by kernel_rfl
theorem zp_23 : zeroP C0 23 = some [nilS] := by kernel_rfl
theorem by_23 : bytesOf C0 23 = some 24 := by kernel_rfl
theorem sz_24 : szOf C0 24 = some 4 := by kernel_rfl
theorem ag_24 : aggO C0 24 = some true := by kernel_rfl
theorem fd_24_0 : fieldP C0 24 0 = some (0, 23) := by kernel_rfl
theorem fd_24_1 : fieldP C0 24 1 = some (1, 23) := by kernel_rfl
theorem fd_24_2 : fieldP C0 24 2 = some (2, 3) := by kernel_rfl
theorem fd_24_3 : fieldP C0 24 3 = some (3, 23) := by kernel_rfl
theorem pl_24 : placesP C0 24 = some [(0, 1), (1, 1), (2, 1), (3, 1)] := by kernel_rfl
theorem zp_24 : zeroP C0 24 = some [nilS, nilS, (i64P 0), nilS] := by kernel_rfl
theorem by_24 : bytesOf C0 24 = some 80 := by kernel_rfl
theorem sz_25 : szOf C0 25 = some 4 := by kernel_rfl
theorem ag_25 : aggO C0 25 = some true := by kernel_rfl
theorem fd_25_0 : fieldP C0 25 0 = some (0, 23) := by kernel_rfl
theorem fd_25_1 : fieldP C0 25 1 = some (1, 23) := by kernel_rfl
theorem fd_25_2 : fieldP C0 25 2 = some (2, 3) := by kernel_rfl
theorem fd_25_3 : fieldP C0 25 3 = some (3, 23) := by kernel_rfl
theorem pl_25 : placesP C0 25 = some [(0, 1), (1, 1), (2, 1), (3, 1)] := by kernel_rfl
theorem zp_25 : zeroP C0 25 = some [nilS, nilS, (i64P 0), nilS] := by kernel_rfl
theorem by_25 : bytesOf C0 25 = some 80 := by kernel_rfl
theorem sz_26 : szOf C0 26 = some 1 := by kernel_rfl
theorem ag_26 : aggO C0 26 = some false := by kernel_rfl
theorem zp_26 : zeroP C0 26 = some [(.s .nilFunc)] := by kernel_rfl
theorem sz_27 : szOf C0 27 = some 1 := by kernel_rfl
theorem ag_27 : aggO C0 27 = some false := by kernel_rfl
theorem zp_27 : zeroP C0 27 = some [(.s .nilFunc)] := by kernel_rfl
theorem sz_28 : szOf C0 28 = some 1 := by kernel_rfl
theorem ag_28 : aggO C0 28 = some false := by kernel_rfl
theorem kd_28 : kindP C0 28 = some .i64 := by kernel_rfl
theorem zp_28 : zeroP C0 28 = some [(i64P 0)] := by kernel_rfl
theorem by_28 : bytesOf C0 28 = some 8 := by kernel_rfl
theorem sz_30 : szOf C0 30 = some 1 := by kernel_rfl
theorem ag_30 : aggO C0 30 = some false := by kernel_rfl
theorem zp_30 : zeroP C0 30 = some [(.s .nilFunc)] := by kernel_rfl
theorem sz_32 : szOf C0 32 = some 1 := by kernel_rfl
theorem ag_32 : aggO C0 32 = some false := by kernel_rfl
theorem zp_32 : zeroP C0 32 = some [(.s .nilFunc)] := by kernel_rfl
theorem sz_33 : szOf C0 33 = some 1 := by kernel_rfl
theorem ag_33 : aggO C0 33 = some false := by kernel_rfl
theorem el_33 : elemP C0 33 = some 3 := by kernel_rfl
theorem kn_33 : kindP C0 33 = none := by kernel_rfl
theorem zp_33 : zeroP C0 33 = some [nilS] := by kernel_rfl
theorem by_33 : bytesOf C0 33 = some 24 := by kernel_rfl
theorem sz_34 : szOf C0 34 = some 3 := by kernel_rfl
theorem ag_34 : aggO C0 34 = some true := by kernel_rfl
theorem fd_34_0 : fieldP C0 34 0 = some (0, 23) := by kernel_rfl
theorem fd_34_1 : fieldP C0 34 1 = some (1, 23) := by kernel_rfl
theorem fd_34_2 : fieldP C0 34 2 = some (2, 33) := by kernel_rfl
theorem pl_34 : placesP C0 34 = some [(0, 1), (1, 1), (2, 1)] := by kernel_rfl
theorem zp_34 : zeroP C0 34 = some [nilS, nilS, nilS] := by kernel_rfl
theorem by_34 : bytesOf C0 34 = some 72 := by kernel_rfl
theorem sz_35 : szOf C0 35 = some 3 := by kernel_rfl
theorem ag_35 : aggO C0 35 = some true := by kernel_rfl
theorem fd_35_0 : fieldP C0 35 0 = some (0, 23) := by kernel_rfl
theorem fd_35_1 : fieldP C0 35 1 = some (1, 23) := by kernel_rfl
theorem fd_35_2 : fieldP C0 35 2 = some (2, 33) := by kernel_rfl
theorem pl_35 : placesP C0 35 = some [(0, 1), (1, 1), (2, 1)] := by kernel_rfl
theorem zp_35 : zeroP C0 35 = some [nilS, nilS, nilS] := by kernel_rfl
theorem by_35 : bytesOf C0 35 = some 72 := by kernel_rfl
theorem sz_36 : szOf C0 36 = some 8 := by kernel_rfl
theorem ag_36 : aggO C0 36 = some true := by kernel_rfl
theorem fd_36_0 : fieldP C0 36 0 = some (0, 3) := by kernel_rfl
theorem fd_36_1 : fieldP C0 36 1 = some (1, 25) := by kernel_rfl
theorem fd_36_2 : fieldP C0 36 2 = some (5, 35) := by kernel_rfl
theorem pl_36 : placesP C0 36 = some [(0, 1), (1, 4), (5, 3)] := by kernel_rfl
theorem zp_36 : zeroP C0 36 = some [(i64P 0), nilS, nilS, (i64P 0), nilS, nilS, nilS, nilS] := by kernel_rfl
theorem by_36 : bytesOf C0 36 = some 160 := by kernel_rfl
theorem sz_37 : szOf C0 37 = some 8 := by kernel_rfl
theorem ag_37 : aggO C0 37 = some true := by kernel_rfl
theorem fd_37_0 : fieldP C0 37 0 = some (0, 3) := by kernel_rfl
theorem fd_37_1 : fieldP C0 37 1 = some (1, 25) := by kernel_rfl
theorem fd_37_2 : fieldP C0 37 2 = some (5, 35) := by kernel_rfl
theorem pl_37 : placesP C0 37 = some [(0, 1), (1, 4), (5, 3)] := by kernel_rfl
theorem zp_37 : zeroP C0 37 = some [(i64P 0), nilS, nilS, (i64P 0), nilS, nilS, nilS, nilS] := by kernel_rfl
theorem by_37 : bytesOf C0 37 = some 160 := by kernel_rfl
theorem sz_38 : szOf C0 38 = some 1 := by kernel_rfl
theorem ag_38 : aggO C0 38 = some false := by kernel_rfl
theorem zp_38 : zeroP C0 38 = some [(.s .nilFunc)] := by kernel_rfl
theorem sz_39 : szOf C0 39 = some 1 := by kernel_rfl
theorem ag_39 : aggO C0 39 = some false := by kernel_rfl
theorem zp_39 : zeroP C0 39 = some [(.s .nilFunc)] := by kernel_rfl
theorem sz_40 : szOf C0 40 = some 1 := by kernel_rfl
theorem ag_40 : aggO C0 40 = some false := by kernel_rfl
theorem zp_40 : zeroP C0 40 = some [(.s .nilFunc)] := by kernel_rfl
theorem sz_41 : szOf C0 41 = some 1 := by kernel_rfl
theorem ag_41 : aggO C0 41 = some false := by kernel_rfl
theorem zp_41 : zeroP C0 41 = some [(.s .nilFunc)] := by kernel_rfl
theorem sz_42 : szOf C0 42 = some 1 := by kernel_rfl
theorem ag_42 : aggO C0 42 = some false := by kernel_rfl
theorem zp_42 : zeroP C0 42 = some [(.s .nilFunc)] := by kernel_rfl
theorem sz_43 : szOf C0 43 = some 1 := by kernel_rfl
theorem ag_43 : aggO C0 43 = some false := by kernel_rfl
theorem zp_43 : zeroP C0 43 = some [(.s .nilFunc)] := by kernel_rfl
theorem sz_44 : szOf C0 44 = some 1 := by kernel_rfl
theorem ag_44 : aggO C0 44 = some false := by kernel_rfl
theorem zp_44 : zeroP C0 44 = some [(.s .nilFunc)] := by kernel_rfl
theorem sz_45 : szOf C0 45 = some 1 := by kernel_rfl
theorem ag_45 : aggO C0 45 = some false := by kernel_rfl
theorem zp_45 : zeroP C0 45 = some [(.s .nilFunc)] := by kernel_rfl
theorem sz_46 : szOf C0 46 = some 1 := by kernel_rfl
theorem ag_46 : aggO C0 46 = some false := by kernel_rfl
theorem el_46 : elemP C0 46 = some 23 := by kernel_rfl
theorem kn_46 : kindP C0 46 = none := by kernel_rfl
theorem zp_46 : zeroP C0 46 = some [nilS] := by kernel_rfl
theorem by_46 : bytesOf C0 46 = some 24 := by kernel_rfl
theorem sz_47 : szOf C0 47 = some 1 := by kernel_rfl
theorem ag_47 : aggO C0 47 = some false := by kernel_rfl
theorem zp_47 : zeroP C0 47 = some [(.s .nilFunc)] := by kernel_rfl
theorem sz_48 : szOf C0 48 = some 1 := by kernel_rfl
theorem ag_48 : aggO C0 48 = some false := by kernel_rfl
theorem zp_48 : zeroP C0 48 = some [(.s .nilFunc)] := by kernel_rfl
theorem sz_49 : szOf C0 49 = some 1 := by kernel_rfl
theorem ag_49 : aggO C0 49 = some false := by kernel_rfl
theorem zp_49 : zeroP C0 49 = some [(.s .nilFunc)] := by kernel_rfl
theorem sz_50 : szOf C0 50 = some 1 := by kernel_rfl
theorem ag_50 : aggO C0 50 = some false := by kernel_rfl
theorem el_50 : elemP C0 50 = some 54 := by kernel_rfl
theorem kn_50 : kindP C0 50 = none := by kernel_rfl
theorem zp_50 : zeroP C0 50 = some [nilS] := by kernel_rfl
theorem by_50 : bytesOf C0 50 = some 24 := by kernel_rfl
theorem sz_51 : szOf C0 51 = some 1 := by kernel_rfl
theorem ag_51 : aggO C0 51 = some false := by kernel_rfl
theorem zp_51 : zeroP C0 51 = some [(.s .nilFunc)] := by kernel_rfl
theorem sz_52 : szOf C0 52 = some 1 := by kernel_rfl
theorem ag_52 : aggO C0 52 = some false := by kernel_rfl
theorem zp_52 : zeroP C0 52 = some [(.s .nilFunc)] := by kernel_rfl
theorem sz_53 : szOf C0 53 = some 8 := by kernel_rfl
theorem ag_53 : aggO C0 53 = some true := by kernel_rfl
theorem fd_53_0 : fieldP C0 53 0 = some (0, 3) := by kernel_rfl
theorem fd_53_1 : fieldP C0 53 1 = some (1, 3) := by kernel_rfl
theorem fd_53_2 : fieldP C0 53 2 = some (2, 25) := by kernel_rfl
theorem fd_53_3 : fieldP C0 53 3 = some (6, 46) := by kernel_rfl
theorem fd_53_4 : fieldP C0 53 4 = some (7, 4) := by kernel_rfl
theorem pl_53 : placesP C0 53 = some [(0, 1), (1, 1), (2, 4), (6, 1), (7, 1)] := by kernel_rfl
theorem zp_53 : zeroP C0 53 = some [(i64P 0), (i64P 0), nilS, nilS, (i64P 0), nilS, nilS, (boolP false)] := by kernel_rfl
theorem by_53 : bytesOf C0 53 = some 128 := by kernel_rfl
theorem sz_54 : szOf C0 54 = some 8 := by kernel_rfl
theorem ag_54 : aggO C0 54 = some true := by kernel_rfl
theorem fd_54_0 : fieldP C0 54 0 = some (0, 3) := by kernel_rfl
theorem fd_54_1 : fieldP C0 54 1 = some (1, 3) := by kernel_rfl
theorem fd_54_2 : fieldP C0 54 2 = some (2, 25) := by kernel_rfl
theorem fd_54_3 : fieldP C0 54 3 = some (6, 46) := by kernel_rfl
theorem fd_54_4 : fieldP C0 54 4 = some (7, 4) := by kernel_rfl
theorem pl_54 : placesP C0 54 = some [(0, 1), (1, 1), (2, 4), (6, 1), (7, 1)] := by kernel_rfl
theorem zp_54 : zeroP C0 54 = some [(i64P 0), (i64P 0), nilS, nilS, (i64P 0), nilS, nilS, (boolP false)] := by kernel_rfl
theorem by_54 : bytesOf C0 54 = some 128 := by kernel_rfl
theorem sz_55 : szOf C0 55 = some 1 := by kernel_rfl
theorem ag_55 : aggO C0 55 = some false := by kernel_rfl
theorem zp_55 : zeroP C0 55 = some [(.s .nilFunc)] := by kernel_rfl
theorem sz_56 : szOf C0 56 = some 1 := by kernel_rfl
theorem ag_56 : aggO C0 56 = some false := by kernel_rfl
theorem zp_56 : zeroP C0 56 = some [(.s .nilFunc)] := by kernel_rfl
theorem sz_57 : szOf C0 57 = some 1 := by kernel_rfl
theorem ag_57 : aggO C0 57 = some false := by kernel_rfl
theorem zp_57 : zeroP C0 57 = some [(.s .nilFunc)] := by kernel_rfl
theorem sz_58 : szOf C0 58 = some 1 := by kernel_rfl
theorem ag_58 : aggO C0 58 = some false := by kernel_rfl
theorem zp_58 : zeroP C0 58 = some [(.s .nilFunc)] := by kernel_rfl
theorem sz_59 : szOf C0 59 = some 1 := by kernel_rfl
theorem ag_59 : aggO C0 59 = some false := by kernel_rfl
theorem zp_59 : zeroP C0 59 = some [(.s .nilFunc)] := by kernel_rfl
theorem sz_60 : szOf C0 60 = some 1 := by kernel_rfl
theorem ag_60 : aggO C0 60 = some false := by kernel_rfl
theorem zp_60 : zeroP C0 60 = some [(.s .nilFunc)] := by kernel_rfl
theorem sz_61 : szOf C0 61 = some 1 := by kernel_rfl
theorem ag_61 : aggO C0 61 = some false := by kernel_rfl
theorem zp_61 : zeroP C0 61 = some [(.s .nilFunc)] := by kernel_rfl
theorem sz_62 : szOf C0 62 = some 1 := by kernel_rfl
theorem ag_62 : aggO C0 62 = some false := by kernel_rfl
theorem zp_62 : zeroP C0 62 = some [(.s .nilFunc)] := by kernel_rfl
theorem sz_63 : szOf C0 63 = some 1 := by kernel_rfl
theorem ag_63 : aggO C0 63 = some false := by kernel_rfl
theorem zp_63 : zeroP C0 63 = some [(.s .nilFunc)] := by kernel_rfl
theorem sz_64 : szOf C0 64 = some 1 := by kernel_rfl
theorem ag_64 : aggO C0 64 = some false := by kernel_rfl
theorem zp_64 : zeroP C0 64 = some [(.s .nilFunc)] := by kernel_rfl
theorem sz_65 : szOf C0 65 = some 1 := by kernel_rfl
theorem ag_65 : aggO C0 65 = some false := by kernel_rfl
theorem zp_65 : zeroP C0 65 = some [(.s .nilFunc)] := by kernel_rfl
theorem sz_66 : szOf C0 66 = some 1 := by kernel_rfl
theorem ag_66 : aggO C0 66 = some false := by kernel_rfl
theorem zp_66 : zeroP C0 66 = some [(.s .nilFunc)] := by kernel_rfl
theorem sz_67 : szOf C0 67 = some 2 := by kernel_rfl
theorem ag_67 : aggO C0 67 = some true := by kernel_rfl
theorem fd_67_0 : fieldP C0 67 0 = some (0, 3) := by kernel_rfl
theorem fd_67_1 : fieldP C0 67 1 = some (1, 63) := by kernel_rfl
theorem pl_67 : placesP C0 67 = some [(0, 1), (1, 1)] := by kernel_rfl
theorem zp_67 : zeroP C0 67 = some [(i64P 0), (.s .nilFunc)] := by kernel_rfl
theorem sz_68 : szOf C0 68 = some 2 := by kernel_rfl
theorem ag_68 : aggO C0 68 = some true := by kernel_rfl
theorem fd_68_0 : fieldP C0 68 0 = some (0, 3) := by kernel_rfl
theorem fd_68_1 : fieldP C0 68 1 = some (1, 63) := by kernel_rfl
theorem pl_68 : placesP C0 68 = some [(0, 1), (1, 1)] := by kernel_rfl
theorem zp_68 : zeroP C0 68 = some [(i64P 0), (.s .nilFunc)] := by kernel_rfl
theorem sz_69 : szOf C0 69 = some 1 := by kernel_rfl
theorem ag_69 : aggO C0 69 = some false := by kernel_rfl
theorem zp_69 : zeroP C0 69 = some [(.s .nilFunc)] := by kernel_rfl
theorem sz_70 : szOf C0 70 = some 1 := by kernel_rfl
theorem ag_70 : aggO C0 70 = some false := by kernel_rfl
theorem zp_70 : zeroP C0 70 = some [(.s .nilFunc)] := by kernel_rfl
theorem sz_71 : szOf C0 71 = some 1 := by kernel_rfl
theorem ag_71 : aggO C0 71 = some false := by kernel_rfl
theorem zp_71 : zeroP C0 71 = some [(.s .nilFunc)] := by kernel_rfl
theorem sz_72 : szOf C0 72 = some 1 := by kernel_rfl
theorem ag_72 : aggO C0 72 = some false := by kernel_rfl
theorem zp_72 : zeroP C0 72 = some [(.s .nilFunc)] := by kernel_rfl
theorem sz_73 : szOf C0 73 = some 1 := by kernel_rfl
theorem ag_73 : aggO C0 73 = some false := by kernel_rfl
theorem zp_73 : zeroP C0 73 = some [(.s .nilFunc)] := by kernel_rfl
theorem sz_74 : szOf C0 74 = some 1 := by kernel_rfl
theorem ag_74 : aggO C0 74 = some false := by kernel_rfl
theorem zp_74 : zeroP C0 74 = some [(.s .nilFunc)] := by kernel_rfl
theorem sz_76 : szOf C0 76 = some 1 := by kernel_rfl
theorem ag_76 : aggO C0 76 = some false := by kernel_rfl
theorem zp_76 : zeroP C0 76 = some [(.s .nilFunc)] := by kernel_rfl
theorem sz_77 : szOf C0 77 = some 1 := by kernel_rfl
theorem ag_77 : aggO C0 77 = some false := by kernel_rfl
theorem zp_77 : zeroP C0 77 = some [(.s .nilFunc)] := by kernel_rfl
theorem sz_78 : szOf C0 78 = some 1 := by kernel_rfl
theorem ag_78 : aggO C0 78 = some false := by kernel_rfl
theorem zp_78 : zeroP C0 78 = some [(.s .nilFunc)] := by kernel_rfl
theorem sz_79 : szOf C0 79 = some 1 := by kernel_rfl
theorem ag_79 : aggO C0 79 = some false := by kernel_rfl
theorem zp_79 : zeroP C0 79 = some [(.s .nilFunc)] := by kernel_rfl
theorem sz_80 : szOf C0 80 = some 1 := by kernel_rfl
theorem ag_80 : aggO C0 80 = some false := by kernel_rfl
theorem zp_80 : zeroP C0 80 = some [(.s .nilFunc)] := by kernel_rfl
theorem sz_81 : szOf C0 81 = some 1 := by kernel_rfl
theorem ag_81 : aggO C0 81 = some false := by kernel_rfl
theorem zp_81 : zeroP C0 81 = some [(.s .nilFunc)] := by kernel_rfl
theorem sz_82 : szOf C0 82 = some 1 := by kernel_rfl
theorem ag_82 : aggO C0 82 = some false := by kernel_rfl
theorem zp_82 : zeroP C0 82 = some [(.s .nilFunc)] := by kernel_rfl
theorem sz_83 : szOf C0 83 = some 1 := by kernel_rfl
theorem ag_83 : aggO C0 83 = some false := by kernel_rfl
theorem zp_83 : zeroP C0 83 = some [(.s .nilFunc)] := by kernel_rfl
theorem sz_84 : szOf C0 84 = some 1 := by kernel_rfl
theorem ag_84 : aggO C0 84 = some false := by kernel_rfl
theorem zp_84 : zeroP C0 84 = some [(.s .nilFunc)] := by kernel_rfl
theorem sz_85 : szOf C0 85 = some 1 := by kernel_rfl
theorem ag_85 : aggO C0 85 = some false := by kernel_rfl
theorem zp_85 : zeroP C0 85 = some [(.s .nilFunc)] := by kernel_rfl
theorem sz_86 : szOf C0 86 = some 1 := by kernel_rfl
theorem ag_86 : aggO C0 86 = some false := by kernel_rfl
theorem zp_86 : zeroP C0 86 = some [(.s .nilFunc)] := by kernel_rfl
theorem sz_87 : szOf C0 87 = some 1 := by kernel_rfl
theorem ag_87 : aggO C0 87 = some false := by kernel_rfl
theorem zp_87 : zeroP C0 87 = some [(.s .nilFunc)] := by kernel_rfl
theorem sz_88 : szOf C0 88 = some 1 := by kernel_rfl
theorem ag_88 : aggO C0 88 = some false := by kernel_rfl
theorem zp_88 : zeroP C0 88 = some [(.s .nilFunc)] := by kernel_rfl
theorem sz_89 : szOf C0 89 = some 1 := by kernel_rfl
theorem ag_89 : aggO C0 89 = some false := by kernel_rfl
theorem zp_89 : zeroP C0 89 = some [(.s .nilFunc)] := by kernel_rfl
theorem sz_90 : szOf C0 90 = some 1 := by kernel_rfl
theorem ag_90 : aggO C0 90 = some false := by kernel_rfl
theorem zp_90 : zeroP C0 90 = some [(.s .nilFunc)] := by kernel_rfl
theorem sz_91 : szOf C0 91 = some 1 := by kernel_rfl
theorem ag_91 : aggO C0 91 = some false := by kernel_rfl
theorem zp_91 : zeroP C0 91 = some [(.s .nilFunc)] := by kernel_rfl
theorem sz_92 : szOf C0 92 = some 1 := by kernel_rfl
theorem ag_92 : aggO C0 92 = some false := by kernel_rfl
theorem zp_92 : zeroP C0 92 = some [(.s .nilFunc)] := by kernel_rfl
theorem sz_93 : szOf C0 93 = some 1 := by kernel_rfl
theorem ag_93 : aggO C0 93 = some false := by kernel_rfl
theorem zp_93 : zeroP C0 93 = some [(.s .nilFunc)] := by kernel_rfl
theorem sz_94 : szOf C0 94 = some 1 := by kernel_rfl
theorem ag_94 : aggO C0 94 = some false := by kernel_rfl
theorem zp_94 : zeroP C0 94 = some [(.s .nilFunc)] := by kernel_rfl
theorem sz_95 : szOf C0 95 = some 1 := by kernel_rfl
theorem ag_95 : aggO C0 95 = some false := by kernel_rfl
theorem zp_95 : zeroP C0 95 = some [(.s .nilFunc)] := by kernel_rfl
theorem sz_96 : szOf C0 96 = some 1 := by kernel_rfl
theorem ag_96 : aggO C0 96 = some false := by kernel_rfl
theorem zp_96 : zeroP C0 96 = some [(.s .nilFunc)] := by kernel_rfl
theorem sz_97 : szOf C0 97 = some 1 := by kernel_rfl
theorem ag_97 : aggO C0 97 = some false := by kernel_rfl
theorem zp_97 : zeroP C0 97 = some [(.s .nilFunc)] := by kernel_rfl
theorem sz_98 : szOf C0 98 = some 1 := by kernel_rfl
theorem ag_98 : aggO C0 98 = some false := by kernel_rfl
theorem zp_98 : zeroP C0 98 = some [(.s .nilFunc)] := by kernel_rfl
theorem sz_99 : szOf C0 99 = some 1 := by kernel_rfl
theorem ag_99 : aggO C0 99 = some false := by kernel_rfl
theorem kd_99 : kindP C0 99 = some .i64 := by kernel_rfl
theorem zp_99 : zeroP C0 99 = some [(i64P 0)] := by kernel_rfl
theorem by_99 : bytesOf C0 99 = some 8 := by kernel_rfl
theorem sz_100 : szOf C0 100 = some 1 := by kernel_rfl
theorem ag_100 : aggO C0 100 = some false := by kernel_rfl
theorem zp_100 : zeroP C0 100 = some [(.s .nilFunc)] := by kernel_rfl
theorem sz_101 : szOf C0 101 = some 1 := by kernel_rfl
theorem ag_101 : aggO C0 101 = some false := by kernel_rfl
theorem zp_101 : zeroP C0 101 = some [(.s .nilFunc)] := by kernel_rfl
theorem sz_102 : szOf C0 102 = some 1 := by kernel_rfl
theorem ag_102 : aggO C0 102 = some false := by kernel_rfl
theorem zp_102 : zeroP C0 102 = some [(.s .nilFunc)] := by kernel_rfl
theorem sz_103 : szOf C0 103 = some 1 := by kernel_rfl
theorem ag_103 : aggO C0 103 = some false := by kernel_rfl
theorem zp_103 : zeroP C0 103 = some [(.s .nilFunc)] := by kernel_rfl
theorem sz_104 : szOf C0 104 = some 1 := by kernel_rfl
theorem ag_104 : aggO C0 104 = some false := by kernel_rfl
theorem zp_104 : zeroP C0 104 = some [(.s .nilFunc)] := by kernel_rfl
theorem sz_105 : szOf C0 105 = some 1 := by kernel_rfl
theorem ag_105 : aggO C0 105 = some false := by kernel_rfl
theorem zp_105 : zeroP C0 105 = some [(.s .nilFunc)] := by kernel_rfl
theorem sz_106 : szOf C0 106 = some 1 := by kernel_rfl
theorem ag_106 : aggO C0 106 = some false := by kernel_rfl
theorem zp_106 : zeroP C0 106 = some [(.s .nilFunc)] := by kernel_rfl
theorem sz_107 : szOf C0 107 = some 1 := by kernel_rfl
theorem ag_107 : aggO C0 107 = some false := by kernel_rfl
theorem zp_107 : zeroP C0 107 = some [(.s .nilFunc)] := by kernel_rfl
theorem sz_108 : szOf C0 108 = some 1 := by kernel_rfl
theorem ag_108 : aggO C0 108 = some false := by kernel_rfl
theorem zp_108 : zeroP C0 108 = some [(.s .nilFunc)] := by kernel_rfl
theorem sz_109 : szOf C0 109 = some 1 := by kernel_rfl
theorem ag_109 : aggO C0 109 = some false := by kernel_rfl
theorem zp_109 : zeroP C0 109 = some [(.s .nilFunc)] := by kernel_rfl
theorem sz_110 : szOf C0 110 = some 1 := by kernel_rfl
theorem ag_110 : aggO C0 110 = some false := by kernel_rfl
theorem zp_110 : zeroP C0 110 = some [(.s .nilFunc)] := by kernel_rfl
theorem sz_111 : szOf C0 111 = some 1 := by kernel_rfl
theorem ag_111 : aggO C0 111 = some false := by kernel_rfl
theorem zp_111 : zeroP C0 111 = some [(.s .nilFunc)] := by kernel_rfl
theorem sz_112 : szOf C0 112 = some 1 := by kernel_rfl
theorem ag_112 : aggO C0 112 = some false := by kernel_rfl
theorem zp_112 : zeroP C0 112 = some [(.s .nilFunc)] := by kernel_rfl
theorem sz_113 : szOf C0 113 = some 1 := by kernel_rfl
theorem ag_113 : aggO C0 113 = some false := by kernel_rfl
theorem zp_113 : zeroP C0 113 = some [(.s .nilFunc)] := by kernel_rfl
theorem sz_114 : szOf C0 114 = some 1 := by kernel_rfl
theorem ag_114 : aggO C0 114 = some false := by kernel_rfl
theorem zp_114 : zeroP C0 114 = some [(.s .nilFunc)] := by kernel_rfl
theorem sz_115 : szOf C0 115 = some 1 := by kernel_rfl
theorem ag_115 : aggO C0 115 = some false := by kernel_rfl
theorem zp_115 : zeroP C0 115 = some [(.s .nilFunc)] := by kernel_rfl
theorem sz_116 : szOf C0 116 = some 1 := by kernel_rfl
theorem ag_116 : aggO C0 116 = some false := by kernel_rfl
theorem zp_116 : zeroP C0 116 = some [(.s .nilFunc)] := by kernel_rfl
theorem sz_117 : szOf C0 117 = some 1 := by kernel_rfl
theorem ag_117 : aggO C0 117 = some false := by kernel_rfl
theorem zp_117 : zeroP C0 117 = some [(.s .nilFunc)] := by kernel_rfl
theorem sz_118 : szOf C0 118 = some 1 := by kernel_rfl
theorem ag_118 : aggO C0 118 = some false := by kernel_rfl
theorem zp_118 : zeroP C0 118 = some [(.s .nilFunc)] := by kernel_rfl
theorem sz_119 : szOf C0 119 = some 1 := by kernel_rfl
theorem ag_119 : aggO C0 119 = some false := by kernel_rfl
theorem zp_119 : zeroP C0 119 = some [(.s .nilFunc)] := by kernel_rfl
theorem sz_120 : szOf C0 120 = some 1 := by kernel_rfl
theorem ag_120 : aggO C0 120 = some false := by kernel_rfl
theorem kd_120 : kindP C0 120 = some .u32 := by kernel_rfl
theorem zp_120 : zeroP C0 120 = some [(.s (.int .u32 0))] := by kernel_rfl
theorem by_120 : bytesOf C0 120 = some 4 := by kernel_rfl
theorem sz_121 : szOf C0 121 = some 8 := by kernel_rfl
theorem ag_121 : aggO C0 121 = some true := by kernel_rfl
theorem sz_122 : szOf C0 122 = some 10 := by kernel_rfl
theorem ag_122 : aggO C0 122 = some true := by kernel_rfl
theorem fd_122_0 : fieldP C0 122 0 = some (0, 121) := by kernel_rfl
theorem fd_122_1 : fieldP C0 122 1 = some (8, 23) := by kernel_rfl
theorem fd_122_2 : fieldP C0 122 2 = some (9, 3) := by kernel_rfl
theorem pl_122 : placesP C0 122 = some [(0, 8), (8, 1), (9, 1)] := by kernel_rfl
theorem sz_123 : szOf C0 123 = some 10 := by kernel_rfl
theorem ag_123 : aggO C0 123 = some true := by kernel_rfl
theorem fd_123_0 : fieldP C0 123 0 = some (0, 121) := by kernel_rfl
theorem fd_123_1 : fieldP C0 123 1 = some (8, 23) := by kernel_rfl
theorem fd_123_2 : fieldP C0 123 2 = some (9, 3) := by kernel_rfl
theorem pl_123 : placesP C0 123 = some [(0, 8), (8, 1), (9, 1)] := by kernel_rfl
theorem sz_124 : szOf C0 124 = some 1 := by kernel_rfl
theorem ag_124 : aggO C0 124 = some false := by kernel_rfl
theorem zp_124 : zeroP C0 124 = some [(.s .nilFunc)] := by kernel_rfl
theorem sz_125 : szOf C0 125 = some 1 := by kernel_rfl
theorem ag_125 : aggO C0 125 = some false := by kernel_rfl
theorem zp_125 : zeroP C0 125 = some [(.s .nilFunc)] := by kernel_rfl
theorem sz_126 : szOf C0 126 = some 1 := by kernel_rfl
theorem ag_126 : aggO C0 126 = some false := by kernel_rfl
theorem zp_126 : zeroP C0 126 = some [(.s .nilFunc)] := by kernel_rfl
theorem sz_127 : szOf C0 127 = some 1 := by kernel_rfl
theorem ag_127 : aggO C0 127 = some false := by kernel_rfl
theorem zp_127 : zeroP C0 127 = some [(.s .nilFunc)] := by kernel_rfl
theorem sz_128 : szOf C0 128 = some 10 := by kernel_rfl
theorem ag_128 : aggO C0 128 = some true := by kernel_rfl
theorem fd_128_0 : fieldP C0 128 0 = some (0, 121) := by kernel_rfl
theorem fd_128_1 : fieldP C0 128 1 = some (8, 23) := by kernel_rfl
theorem fd_128_2 : fieldP C0 128 2 = some (9, 3) := by kernel_rfl
theorem pl_128 : placesP C0 128 = some [(0, 8), (8, 1), (9, 1)] := by kernel_rfl
theorem sz_129 : szOf C0 129 = some 1 := by kernel_rfl
theorem ag_129 : aggO C0 129 = some false := by kernel_rfl
theorem zp_129 : zeroP C0 129 = some [(.s .nilFunc)] := by kernel_rfl
theorem sz_130 : szOf C0 130 = some 1 := by kernel_rfl
theorem ag_130 : aggO C0 130 = some false := by kernel_rfl
theorem zp_130 : zeroP C0 130 = some [(.s .nilFunc)] := by kernel_rfl
theorem sz_131 : szOf C0 131 = some 1 := by kernel_rfl
theorem ag_131 : aggO C0 131 = some false := by kernel_rfl
theorem zp_131 : zeroP C0 131 = some [(.s .nilFunc)] := by kernel_rfl
theorem sz_132 : szOf C0 132 = some 1 := by kernel_rfl
theorem ag_132 : aggO C0 132 = some false := by kernel_rfl
theorem kd_132 : kindP C0 132 = some .u64 := by kernel_rfl
theorem zp_132 : zeroP C0 132 = some [(.s (.int .u64 0))] := by kernel_rfl
theorem by_132 : bytesOf C0 132 = some 8 := by kernel_rfl
theorem sz_133 : szOf C0 133 = some 1 := by kernel_rfl
theorem ag_133 : aggO C0 133 = some false := by kernel_rfl
theorem zp_133 : zeroP C0 133 = some [(.s .nilFunc)] := by kernel_rfl
theorem sz_134 : szOf C0 134 = some 1 := by kernel_rfl
theorem ag_134 : aggO C0 134 = some false := by kernel_rfl
theorem zp_134 : zeroP C0 134 = some [(.s .nilFunc)] := by kernel_rfl
theorem sz_135 : szOf C0 135 = some 1 := by kernel_rfl
theorem ag_135 : aggO C0 135 = some false := by kernel_rfl
theorem sz_136 : szOf C0 136 = some 1 := by kernel_rfl
theorem ag_136 : aggO C0 136 = some false := by kernel_rfl
theorem zp_136 : zeroP C0 136 = some [(.s .nilFunc)] := by kernel_rfl
theorem sz_137 : szOf C0 137 = some 1 := by kernel_rfl
theorem ag_137 : aggO C0 137 = some false := by kernel_rfl
theorem zp_137 : zeroP C0 137 = some [(.s .nilFunc)] := by kernel_rfl
theorem sz_138 : szOf C0 138 = some 1 := by kernel_rfl
theorem ag_138 : aggO C0 138 = some false := by kernel_rfl
theorem zp_138 : zeroP C0 138 = some [(.s .nilFunc)] := by kernel_rfl
theorem sz_139 : szOf C0 139 = some 1 := by kernel_rfl
theorem ag_139 : aggO C0 139 = some false := by kernel_rfl
theorem zp_139 : zeroP C0 139 = some [(.s .nilFunc)] := by kernel_rfl
theorem sz_140 : szOf C0 140 = some 1 := by kernel_rfl
theorem ag_140 : aggO C0 140 = some false := by kernel_rfl
theorem zp_140 : zeroP C0 140 = some [(.s .nilFunc)] := by kernel_rfl
theorem sz_141 : szOf C0 141 = some 1 := by kernel_rfl
theorem ag_141 : aggO C0 141 = some false := by kernel_rfl
theorem zp_141 : zeroP C0 141 = some [(.s .nilFunc)] := by kernel_rfl
theorem sz_142 : szOf C0 142 = some 1 := by kernel_rfl
theorem ag_142 : aggO C0 142 = some false := by kernel_rfl
theorem zp_142 : zeroP C0 142 = some [(.s .nilFunc)] := by kernel_rfl
theorem sz_143 : szOf C0 143 = some 1 := by kernel_rfl
theorem ag_143 : aggO C0 143 = some false := by kernel_rfl
theorem zp_143 : zeroP C0 143 = some [(.s .nilFunc)] := by kernel_rfl
theorem sz_144 : szOf C0 144 = some 64 := by kernel_rfl
theorem ag_144 : aggO C0 144 = some true := by kernel_rfl
theorem sz_145 : szOf C0 145 = some 1 := by kernel_rfl
theorem ag_145 : aggO C0 145 = some false := by kernel_rfl
theorem zp_145 : zeroP C0 145 = some [(.s .nilFunc)] := by kernel_rfl
theorem sz_146 : szOf C0 146 = some 1 := by kernel_rfl
theorem ag_146 : aggO C0 146 = some false := by kernel_rfl
theorem zp_146 : zeroP C0 146 = some [(.s .nilFunc)] := by kernel_rfl
theorem sz_147 : szOf C0 147 = some 1 := by kernel_rfl
theorem ag_147 : aggO C0 147 = some false := by kernel_rfl
theorem zp_147 : zeroP C0 147 = some [(.s .nilFunc)] := by kernel_rfl
theorem sz_148 : szOf C0 148 = some 1 := by kernel_rfl
theorem ag_148 : aggO C0 148 = some false := by kernel_rfl
theorem kd_148 : kindP C0 148 = some .u64 := by kernel_rfl
theorem zp_148 : zeroP C0 148 = some [(.s (.int .u64 0))] := by kernel_rfl
theorem by_148 : bytesOf C0 148 = some 8 := by kernel_rfl
theorem sz_149 : szOf C0 149 = some 1 := by kernel_rfl
theorem ag_149 : aggO C0 149 = some false := by kernel_rfl
theorem zp_149 : zeroP C0 149 = some [(.s .nilFunc)] := by kernel_rfl
theorem sz_150 : szOf C0 150 = some 1 := by kernel_rfl
theorem ag_150 : aggO C0 150 = some false := by kernel_rfl
theorem kd_150 : kindP C0 150 = some .i64 := by kernel_rfl
theorem zp_150 : zeroP C0 150 = some [(i64P 0)] := by kernel_rfl
theorem by_150 : bytesOf C0 150 = some 8 := by kernel_rfl
theorem sz_152 : szOf C0 152 = some 1 := by kernel_rfl
theorem ag_152 : aggO C0 152 = some false := by kernel_rfl
theorem zp_152 : zeroP C0 152 = some [(.s .nilFunc)] := by kernel_rfl
theorem sz_153 : szOf C0 153 = some 1 := by kernel_rfl
theorem ag_153 : aggO C0 153 = some false := by kernel_rfl
theorem zp_153 : zeroP C0 153 = some [(.s .nilFunc)] := by kernel_rfl
theorem sz_154 : szOf C0 154 = some 1 := by kernel_rfl
theorem ag_154 : aggO C0 154 = some false := by kernel_rfl
theorem zp_154 : zeroP C0 154 = some [(.s .nilFunc)] := by kernel_rfl
theorem sz_156 : szOf C0 156 = some 1 := by kernel_rfl
theorem ag_156 : aggO C0 156 = some false := by kernel_rfl
theorem zp_156 : zeroP C0 156 = some [(.s .nilFunc)] := by kernel_rfl
theorem sz_158 : szOf C0 158 = some 1 := by kernel_rfl
theorem ag_158 : aggO C0 158 = some false := by kernel_rfl
theorem zp_158 : zeroP C0 158 = some [(.s .nilFunc)] := by kernel_rfl
theorem sz_159 : szOf C0 159 = some 1 := by kernel_rfl
theorem ag_159 : aggO C0 159 = some false := by kernel_rfl
theorem zp_159 : zeroP C0 159 = some [(.s .nilFunc)] := by kernel_rfl
theorem sz_160 : szOf C0 160 = some 1 := by kernel_rfl
theorem ag_160 : aggO C0 160 = some false := by kernel_rfl
theorem sz_161 : szOf C0 161 = some 64 := by kernel_rfl
theorem ag_161 : aggO C0 161 = some true := by kernel_rfl
theorem sz_162 : szOf C0 162 = some 1 := by kernel_rfl
theorem ag_162 : aggO C0 162 = some false := by kernel_rfl
theorem zp_162 : zeroP C0 162 = some [(.s .nilFunc)] := by kernel_rfl
theorem sz_163 : szOf C0 163 = some 1 := by kernel_rfl
theorem ag_163 : aggO C0 163 = some false := by kernel_rfl
theorem el_163 : elemP C0 163 = some 120 := by kernel_rfl
theorem kn_163 : kindP C0 163 = none := by kernel_rfl
theorem zp_163 : zeroP C0 163 = some [nilS] := by kernel_rfl
theorem by_163 : bytesOf C0 163 = some 24 := by kernel_rfl
theorem sz_164 : szOf C0 164 = some 1 := by kernel_rfl
theorem ag_164 : aggO C0 164 = some false := by kernel_rfl
theorem zp_164 : zeroP C0 164 = some [(.s .nilFunc)] := by kernel_rfl
theorem sz_165 : szOf C0 165 = some 1 := by kernel_rfl
theorem ag_165 : aggO C0 165 = some false := by kernel_rfl
theorem zp_165 : zeroP C0 165 = some [(.s .nilFunc)] := by kernel_rfl
theorem sz_166 : szOf C0 166 = some 32 := by kernel_rfl
theorem ag_166 : aggO C0 166 = some true := by kernel_rfl
theorem sz_167 : szOf C0 167 = some 1 := by kernel_rfl
theorem ag_167 : aggO C0 167 = some false := by kernel_rfl
theorem kd_167 : kindP C0 167 = some .u64 := by kernel_rfl
theorem zp_167 : zeroP C0 167 = some [(.s (.int .u64 0))] := by kernel_rfl
theorem by_167 : bytesOf C0 167 = some 8 := by kernel_rfl
theorem sz_168 : szOf C0 168 = some 1 := by kernel_rfl
theorem ag_168 : aggO C0 168 = some false := by kernel_rfl
theorem zp_168 : zeroP C0 168 = some [(.s .nilFunc)] := by kernel_rfl
theorem sz_169 : szOf C0 169 = some 1 := by kernel_rfl
theorem ag_169 : aggO C0 169 = some false := by kernel_rfl
theorem zp_169 : zeroP C0 169 = some [(.s .nilFunc)] := by kernel_rfl
theorem sz_170 : szOf C0 170 = some 1 := by kernel_rfl
theorem ag_170 : aggO C0 170 = some false := by kernel_rfl
theorem zp_170 : zeroP C0 170 = some [(.s .nilFunc)] := by kernel_rfl
theorem sz_171 : szOf C0 171 = some 1 := by kernel_rfl
theorem ag_171 : aggO C0 171 = some false := by kernel_rfl
theorem sz_172 : szOf C0 172 = some 1 := by kernel_rfl
theorem ag_172 : aggO C0 172 = some false := by kernel_rfl
theorem zp_172 : zeroP C0 172 = some [(.s .nilFunc)] := by kernel_rfl
theorem sz_173 : szOf C0 173 = some 1 := by kernel_rfl
theorem ag_173 : aggO C0 173 = some false := by kernel_rfl
theorem zp_173 : zeroP C0 173 = some [(.s .nilFunc)] := by kernel_rfl
theorem sz_174 : szOf C0 174 = some 8 := by kernel_rfl
theorem ag_174 : aggO C0 174 = some true := by kernel_rfl
theorem fd_174_0 : fieldP C0 174 0 = some (0, 3) := by kernel_rfl
theorem fd_174_1 : fieldP C0 174 1 = some (1, 25) := by kernel_rfl
theorem fd_174_2 : fieldP C0 174 2 = some (5, 35) := by kernel_rfl
theorem pl_174 : placesP C0 174 = some [(0, 1), (1, 4), (5, 3)] := by kernel_rfl
theorem zp_174 : zeroP C0 174 = some [(i64P 0), nilS, nilS, (i64P 0), nilS, nilS, nilS, nilS] := by kernel_rfl
theorem by_174 : bytesOf C0 174 = some 160 := by kernel_rfl
theorem sz_175 : szOf C0 175 = some 1 := by kernel_rfl
theorem ag_175 : aggO C0 175 = some false := by kernel_rfl
theorem zp_175 : zeroP C0 175 = some [(.s .nilFunc)] := by kernel_rfl
theorem sz_176 : szOf C0 176 = some 1 := by kernel_rfl
theorem ag_176 : aggO C0 176 = some false := by kernel_rfl
theorem zp_176 : zeroP C0 176 = some [(.s .nilFunc)] := by kernel_rfl
theorem sz_177 : szOf C0 177 = some 1 := by kernel_rfl
theorem ag_177 : aggO C0 177 = some false := by kernel_rfl
theorem zp_177 : zeroP C0 177 = some [(.s .nilFunc)] := by kernel_rfl
theorem sz_178 : szOf C0 178 = some 1 := by kernel_rfl
theorem ag_178 : aggO C0 178 = some false := by kernel_rfl
theorem zp_178 : zeroP C0 178 = some [(.s .nilFunc)] := by kernel_rfl
theorem sz_179 : szOf C0 179 = some 1 := by kernel_rfl
theorem ag_179 : aggO C0 179 = some false := by kernel_rfl
theorem zp_179 : zeroP C0 179 = some [(.s .nilFunc)] := by kernel_rfl
theorem sz_180 : szOf C0 180 = some 1 := by kernel_rfl
theorem ag_180 : aggO C0 180 = some false := by kernel_rfl
theorem zp_180 : zeroP C0 180 = some [(.s .nilFunc)] := by kernel_rfl
theorem sz_181 : szOf C0 181 = some 1 := by kernel_rfl
theorem ag_181 : aggO C0 181 = some false := by kernel_rfl
theorem zp_181 : zeroP C0 181 = some [(.s .nilFunc)] := by kernel_rfl
theorem sz_182 : szOf C0 182 = some 1 := by kernel_rfl
theorem ag_182 : aggO C0 182 = some false := by kernel_rfl
theorem zp_182 : zeroP C0 182 = some [(.s .nilFunc)] := by kernel_rfl
theorem sz_183 : szOf C0 183 = some 1 := by kernel_rfl
theorem ag_183 : aggO C0 183 = some false := by kernel_rfl
theorem sz_185 : szOf C0 185 = some 1 := by kernel_rfl
theorem ag_185 : aggO C0 185 = some false := by kernel_rfl
theorem zp_185 : zeroP C0 185 = some [(.s .nilFunc)] := by kernel_rfl
theorem sz_186 : szOf C0 186 = some 1 := by kernel_rfl
theorem ag_186 : aggO C0 186 = some false := by kernel_rfl
theorem zp_186 : zeroP C0 186 = some [(.s .nilFunc)] := by kernel_rfl
theorem sz_187 : szOf C0 187 = some 1 := by kernel_rfl
theorem ag_187 : aggO C0 187 = some false := by kernel_rfl
theorem zp_187 : zeroP C0 187 = some [(.s .nilFunc)] := by kernel_rfl
theorem sz_188 : szOf C0 188 = some 4 := by kernel_rfl
theorem ag_188 : aggO C0 188 = some true := by kernel_rfl
theorem fd_188_0 : fieldP C0 188 0 = some (0, 17) := by kernel_rfl
theorem fd_188_1 : fieldP C0 188 1 = some (1, 17) := by kernel_rfl
theorem fd_188_2 : fieldP C0 188 2 = some (2, 17) := by kernel_rfl
theorem fd_188_3 : fieldP C0 188 3 = some (3, 9) := by kernel_rfl
theorem pl_188 : placesP C0 188 = some [(0, 1), (1, 1), (2, 1), (3, 1)] := by kernel_rfl
theorem sz_189 : szOf C0 189 = some 4 := by kernel_rfl
theorem ag_189 : aggO C0 189 = some true := by kernel_rfl
theorem fd_189_0 : fieldP C0 189 0 = some (0, 17) := by kernel_rfl
theorem fd_189_1 : fieldP C0 189 1 = some (1, 17) := by kernel_rfl
theorem fd_189_2 : fieldP C0 189 2 = some (2, 17) := by kernel_rfl
theorem fd_189_3 : fieldP C0 189 3 = some (3, 9) := by kernel_rfl
theorem pl_189 : placesP C0 189 = some [(0, 1), (1, 1), (2, 1), (3, 1)] := by kernel_rfl
theorem sz_190 : szOf C0 190 = some 0 := by kernel_rfl
theorem ag_190 : aggO C0 190 = some true := by kernel_rfl
theorem sz_191 : szOf C0 191 = some 0 := by kernel_rfl
theorem ag_191 : aggO C0 191 = some true := by kernel_rfl
theorem fd_191_0 : fieldP C0 191 0 = some (0, 190) := by kernel_rfl
theorem pl_191 : placesP C0 191 = some [(0, 0)] := by kernel_rfl
theorem sz_192 : szOf C0 192 = some 0 := by kernel_rfl
theorem ag_192 : aggO C0 192 = some true := by kernel_rfl
theorem fd_192_0 : fieldP C0 192 0 = some (0, 190) := by kernel_rfl
theorem pl_192 : placesP C0 192 = some [(0, 0)] := by kernel_rfl
theorem sz_193 : szOf C0 193 = some 1 := by kernel_rfl
theorem ag_193 : aggO C0 193 = some false := by kernel_rfl
theorem zp_193 : zeroP C0 193 = some [(.s .nilFunc)] := by kernel_rfl
theorem sz_194 : szOf C0 194 = some 1 := by kernel_rfl
theorem ag_194 : aggO C0 194 = some false := by kernel_rfl
theorem kd_194 : kindP C0 194 = some .u8 := by kernel_rfl
theorem zp_194 : zeroP C0 194 = some [(.s (.int .u8 0))] := by kernel_rfl
theorem by_194 : bytesOf C0 194 = some 1 := by kernel_rfl
theorem sz_195 : szOf C0 195 = some 1 := by kernel_rfl
theorem ag_195 : aggO C0 195 = some false := by kernel_rfl
theorem kd_195 : kindP C0 195 = some .u8 := by kernel_rfl
theorem zp_195 : zeroP C0 195 = some [(.s (.int .u8 0))] := by kernel_rfl
theorem by_195 : bytesOf C0 195 = some 1 := by kernel_rfl
theorem sz_196 : szOf C0 196 = some 1 := by kernel_rfl
theorem ag_196 : aggO C0 196 = some false := by kernel_rfl
theorem zp_196 : zeroP C0 196 = some [(.s .nilFunc)] := by kernel_rfl
theorem sz_197 : szOf C0 197 = some 1 := by kernel_rfl
theorem ag_197 : aggO C0 197 = some false := by kernel_rfl
theorem sz_198 : szOf C0 198 = some 1 := by kernel_rfl
theorem ag_198 : aggO C0 198 = some false := by kernel_rfl
theorem kd_198 : kindP C0 198 = some .i32 := by kernel_rfl
theorem zp_198 : zeroP C0 198 = some [(.s (.int .i32 0))] := by kernel_rfl
theorem by_198 : bytesOf C0 198 = some 4 := by kernel_rfl
theorem sz_199 : szOf C0 199 = some 1 := by kernel_rfl
theorem ag_199 : aggO C0 199 = some false := by kernel_rfl
theorem kd_199 : kindP C0 199 = some .i32 := by kernel_rfl
theorem zp_199 : zeroP C0 199 = some [(.s (.int .i32 0))] := by kernel_rfl
theorem by_199 : bytesOf C0 199 = some 4 := by kernel_rfl
theorem sz_200 : szOf C0 200 = some 11 := by kernel_rfl
theorem ag_200 : aggO C0 200 = some true := by kernel_rfl
theorem fd_200_0 : fieldP C0 200 0 = some (0, 12) := by kernel_rfl
theorem fd_200_1 : fieldP C0 200 1 = some (1, 12) := by kernel_rfl
theorem fd_200_2 : fieldP C0 200 2 = some (2, 120) := by kernel_rfl
theorem fd_200_3 : fieldP C0 200 3 = some (3, 194) := by kernel_rfl
theorem fd_200_4 : fieldP C0 200 4 = some (4, 5) := by kernel_rfl
theorem fd_200_5 : fieldP C0 200 5 = some (5, 5) := by kernel_rfl
theorem fd_200_6 : fieldP C0 200 6 = some (6, 195) := by kernel_rfl
theorem fd_200_7 : fieldP C0 200 7 = some (7, 196) := by kernel_rfl
theorem fd_200_8 : fieldP C0 200 8 = some (8, 197) := by kernel_rfl
theorem fd_200_9 : fieldP C0 200 9 = some (9, 198) := by kernel_rfl
theorem fd_200_10 : fieldP C0 200 10 = some (10, 199) := by kernel_rfl
theorem pl_200 : placesP C0 200 = some [(0, 1), (1, 1), (2, 1), (3, 1), (4, 1), (5, 1), (6, 1), (7, 1), (8, 1), (9, 1), (10, 1)] := by kernel_rfl
theorem sz_201 : szOf C0 201 = some 11 := by kernel_rfl
theorem ag_201 : aggO C0 201 = some true := by kernel_rfl
theorem fd_201_0 : fieldP C0 201 0 = some (0, 12) := by kernel_rfl
theorem fd_201_1 : fieldP C0 201 1 = some (1, 12) := by kernel_rfl
theorem fd_201_2 : fieldP C0 201 2 = some (2, 120) := by kernel_rfl
theorem fd_201_3 : fieldP C0 201 3 = some (3, 194) := by kernel_rfl
theorem fd_201_4 : fieldP C0 201 4 = some (4, 5) := by kernel_rfl
theorem fd_201_5 : fieldP C0 201 5 = some (5, 5) := by kernel_rfl
theorem fd_201_6 : fieldP C0 201 6 = some (6, 195) := by kernel_rfl
theorem fd_201_7 : fieldP C0 201 7 = some (7, 196) := by kernel_rfl
theorem fd_201_8 : fieldP C0 201 8 = some (8, 197) := by kernel_rfl
theorem fd_201_9 : fieldP C0 201 9 = some (9, 198) := by kernel_rfl
theorem fd_201_10 : fieldP C0 201 10 = some (10, 199) := by kernel_rfl
theorem pl_201 : placesP C0 201 = some [(0, 1), (1, 1), (2, 1), (3, 1), (4, 1), (5, 1), (6, 1), (7, 1), (8, 1), (9, 1), (10, 1)] := by kernel_rfl
end Go.Proofs.YtkkdkhacligaoaaGreatDoor.law
