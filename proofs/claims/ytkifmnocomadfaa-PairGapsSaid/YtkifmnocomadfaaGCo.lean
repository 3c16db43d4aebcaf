/- The readings put together. -/
import Derived.Test.YtkifmnocomadfaaGR
import Derived.Test.YtkifmnocomadfaaGRx
import Derived.Test.YtkifmnocomadfaaGFa
import Derived.Test.YtkifmnocomadfaaGFb
import Derived.Test.YtkifmnocomadfaaGFc
import Derived.Test.YtkifmnocomadfaaGFd
import Derived.Test.YtkifmnocomadfaaGFe
import Derived.Test.YtkifmnocomadfaaGFf
import Derived.Test.YtkifmnocomadfaaGFg
import Derived.Test.YtkifmnocomadfaaGFh
import Derived.Test.YtkifmnocomadfaaGFi
import Derived.Test.YtkifmnocomadfaaGFj
namespace Go.Proofs.Ytkifmnocomadfaa
open Go.V
noncomputable def sp38 (N : Nat) : (D52 × (D52 × Unit)) → Option D159 := F38 N
theorem ss38 (N : Nat) : Sound Go.Proofs.Try.prog 38 { ps := ps38, rs := rs38, f := sp38 N } := s38 N
noncomputable def sp48 (N : Nat) : ((List Int) × Unit) → Option (D52 × D159) := F48 N
theorem ss48 (N : Nat) : Sound Go.Proofs.Try.prog 48 { ps := ps48, rs := rs48, f := sp48 N } := s48 N
noncomputable def sp26 (N : Nat) : (D52 × (Int × Unit)) → Option (Int × D159) := F26 N
theorem ss26 (N : Nat) : Sound Go.Proofs.Try.prog 26 { ps := ps26, rs := rs26, f := sp26 N } := s26 N
noncomputable def sp49 (N : Nat) : (D52 × Unit) → Option ((List Int) × Unit) := F49 N (sp26 N)
theorem ss49 (N : Nat) : Sound Go.Proofs.Try.prog 49 { ps := ps49, rs := rs49, f := sp49 N } := s49 N (sp26 N) (ss26 N)
noncomputable def sp20 (N : Nat) : (D52 × Unit) → Option D159 := F20 N (sp38 N) (sp48 N) (sp49 N)
theorem ss20 (N : Nat) : Sound Go.Proofs.Try.prog 20 { ps := ps20, rs := rs20, f := sp20 N } := s20 N (sp38 N) (sp48 N) (sp49 N) (ss38 N) (ss48 N) (ss49 N)
noncomputable def sp70 (N : Nat) : (D67 × (D67 × Unit)) → Option D159 := F70 N
theorem ss70 (N : Nat) : Sound Go.Proofs.Try.prog 70 { ps := ps70, rs := rs70, f := sp70 N } := s70 N
noncomputable def sp78b (N : Nat) : ((List D67) × ((D67 × Unit) × Unit)) → Option (Int × Unit) := F78b N (sp70 N)
theorem ss78b (N : Nat) : Sound Go.Proofs.Try.prog 78 { ps := ps78b, rs := rs78b, f := sp78b N } := s78b N (sp70 N) (ss70 N)
noncomputable def sp68b (N : Nat) : ((List D67) × ((D67 × Unit) × Unit)) → Option D159 := F68b N (sp78b N)
theorem ss68b (N : Nat) : Sound Go.Proofs.Try.prog 68 { ps := ps68b, rs := rs68b, f := sp68b N } := s68b N (sp78b N) (ss78b N)
noncomputable def sp69 (N : Nat) : (D67 × (D31 × Unit)) → Option D159 := F69 N (sp68b N)
theorem ss69 (N : Nat) : Sound Go.Proofs.Try.prog 69 { ps := ps69, rs := rs69, f := sp69 N } := s69 N (sp68b N) (ss68b N)
noncomputable def sp78a (N : Nat) : ((List D67) × ((D31 × Unit) × Unit)) → Option (Int × Unit) := F78a N (sp69 N)
theorem ss78a (N : Nat) : Sound Go.Proofs.Try.prog 78 { ps := ps78a, rs := rs78a, f := sp78a N } := s78a N (sp69 N) (ss69 N)
noncomputable def sp68a (N : Nat) : ((List D67) × ((D31 × Unit) × Unit)) → Option D159 := F68a N (sp78a N)
theorem ss68a (N : Nat) : Sound Go.Proofs.Try.prog 68 { ps := ps68a, rs := rs68a, f := sp68a N } := s68a N (sp78a N) (ss78a N)
noncomputable def sp51 (N : Nat) : (D31 × (D31 × Unit)) → Option D159 := F51 N (sp68a N)
theorem ss51 (N : Nat) : Sound Go.Proofs.Try.prog 51 { ps := ps51, rs := rs51, f := sp51 N } := s51 N (sp68a N) (ss68a N)
noncomputable def sp90 (N : Nat) : (ByteArray × Unit) → Option D159 := F90 N
theorem ss90 (N : Nat) : Sound Go.Proofs.Try.prog 90 { ps := ps90, rs := rs90, f := sp90 N } := s90 N
noncomputable def sp74 (N : Nat) : (ByteArray × (ByteArray × Unit)) → Option (Int × Unit) := F74 N (sp90 N)
theorem ss74 (N : Nat) : Sound Go.Proofs.Try.prog 74 { ps := ps74, rs := rs74, f := sp74 N } := s74 N (sp90 N) (ss90 N)
noncomputable def sp73 (N : Nat) : (D67 × (D67 × Unit)) → Option (Int × Unit) := F73 N (sp74 N)
theorem ss73 (N : Nat) : Sound Go.Proofs.Try.prog 73 { ps := ps73, rs := rs73, f := sp73 N } := s73 N (sp74 N) (ss74 N)
noncomputable def sp76 (N : Nat) : (D67 × (D67 × Unit)) → Option D159 := F76 N
theorem ss76 (N : Nat) : Sound Go.Proofs.Try.prog 76 { ps := ps76, rs := rs76, f := sp76 N } := s76 N
noncomputable def sp52 (N : Nat) : (D31 × (D31 × Unit)) → Option ((List D67) × Unit) := F52 N (sp73 N) (sp76 N)
theorem ss52 (N : Nat) : Sound Go.Proofs.Try.prog 52 { ps := ps52, rs := rs52, f := sp52 N } := s52 N (sp73 N) (sp76 N) (ss73 N) (ss76 N) (fun _ h => grow_ok88 h)
noncomputable def sp40 (N : Nat) : (D48 × Unit) → Option (Int × (Int × D159)) := F40 N
theorem ss40 (N : Nat) : Sound Go.Proofs.Try.prog 40 { ps := ps40, rs := rs40, f := sp40 N } := s40 N
noncomputable def sp65 (N : Nat) : D48 → Option (((List D87) × Unit) × Unit) := F65 N
theorem ss65 (N : Nat) : Sound Go.Proofs.Try.prog 65 { ps := ps65, rs := rs65, f := sp65 N } := s65 N
noncomputable def sp42 (N : Nat) : (D48 × Unit) → Option (((List D87) × Unit) × Unit) := F42 N (sp65 N)
theorem ss42 (N : Nat) : Sound Go.Proofs.Try.prog 42 { ps := ps42, rs := rs42, f := sp42 N } := s42 N (sp65 N) (ss65 N)
noncomputable def sp44 (N : Nat) : (D87 × Unit) → Option D159 := F44 N
theorem ss44 (N : Nat) : Sound Go.Proofs.Try.prog 44 { ps := ps44, rs := rs44, f := sp44 N } := s44 N
noncomputable def sp66 (N : Nat) : ((List D87) × (Unit × Unit)) → Option (Int × Unit) := F66 N (sp44 N)
theorem ss66 (N : Nat) : Sound Go.Proofs.Try.prog 66 { ps := ps66, rs := rs66, f := sp66 N } := s66 N (sp44 N) (ss44 N)
noncomputable def sp43 (N : Nat) : ((List D87) × (Unit × Unit)) → Option D159 := F43 N (sp66 N)
theorem ss43 (N : Nat) : Sound Go.Proofs.Try.prog 43 { ps := ps43, rs := rs43, f := sp43 N } := s43 N (sp66 N) (ss66 N)
noncomputable def sp45 (N : Nat) : D48 → Option (D77 × (Int × Unit)) := F45 N
theorem ss45 (N : Nat) : Sound Go.Proofs.Try.prog 45 { ps := ps45, rs := rs45, f := sp45 N } := s45 N
noncomputable def sp16 (N : Nat) : (D48 × Unit) → Option (D52 × D159) := F16 N (sp40 N) (sp41 N) (sp42 N) (sp43 N) (sp45 N)
theorem ss16 (N : Nat) : Sound Go.Proofs.Try.prog 16 { ps := ps16, rs := rs16, f := sp16 N } := s16 N (sp40 N) (sp41 N) (sp42 N) (sp43 N) (sp45 N) (ss40 N) (ss41 N) (ss42 N) (ss43 N) (ss45 N)
noncomputable def sp91 (N : Nat) : D87 → Option (D48 × Unit) := F91 N
theorem ss91 (N : Nat) : Sound Go.Proofs.Try.prog 91 { ps := ps91, rs := rs91, f := sp91 N } := s91 N
noncomputable def sp77 (N : Nat) : D146 → Option (D52 × D159) := F77 N (sp16 N) (sp91 N)
theorem ss77 (N : Nat) : Sound Go.Proofs.Try.prog 77 { ps := ps77, rs := rs77, f := sp77 N } := s77 N (sp16 N) (sp91 N) (ss16 N) (ss91 N)
noncomputable def sp79 (N : Nat) : (D67 × (D67 × Unit)) → Option D159 := F79 N
theorem ss79 (N : Nat) : Sound Go.Proofs.Try.prog 79 { ps := ps79, rs := rs79, f := sp79 N } := s79 N
noncomputable def sp78c (N : Nat) : ((List D67) × ((D67 × Unit) × Unit)) → Option (Int × Unit) := F78c N (sp79 N)
theorem ss78c (N : Nat) : Sound Go.Proofs.Try.prog 78 { ps := ps78c, rs := rs78c, f := sp78c N } := s78c N (sp79 N) (ss79 N)
noncomputable def sp53 (N : Nat) : (D40 × ((List D67) × ((List D67) × Unit))) → Option (D40 × Unit) := F53 N (sp77 N) (sp78c N)
theorem ss53 (N : Nat) : Sound Go.Proofs.Try.prog 53 { ps := ps53, rs := rs53, f := sp53 N } := s53 N (sp77 N) (sp78c N) (ss77 N) (ss78c N)
noncomputable def sp67 (N : Nat) : ((List D77) × ((List D77) × Unit)) → Option D159 := F67 N
theorem ss67 (N : Nat) : Sound Go.Proofs.Try.prog 67 { ps := ps67, rs := rs67, f := sp67 N } := s67 N
noncomputable def sp47 (N : Nat) : (D52 × (D52 × Unit)) → Option D159 := F47 N (sp67 N)
theorem ss47 (N : Nat) : Sound Go.Proofs.Try.prog 47 { ps := ps47, rs := rs47, f := sp47 N } := s47 N (sp67 N) (ss67 N)
noncomputable def sp92 (N : Nat) : ((List D52) × ((List D52) × (Unit × Unit))) → Option D159 := F92 N (sp47 N)
theorem ss92 (N : Nat) : Sound Go.Proofs.Try.prog 92 { ps := ps92, rs := rs92, f := sp92 N } := s92 N (sp47 N) (ss47 N)
noncomputable def sp80 (N : Nat) : (D40 × (D40 × Unit)) → Option D159 := F80 N (sp92 N)
theorem ss80 (N : Nat) : Sound Go.Proofs.Try.prog 80 { ps := ps80, rs := rs80, f := sp80 N } := s80 N (sp92 N) (ss92 N)
noncomputable def sp24 (N : Nat) : (D31 × (D31 × Unit)) → Option ((List D67) × ((List D69) × (Int × Unit))) := F24 N (sp51 N) (sp52 N) (sp53 N) (sp80 N)
theorem ss24 (N : Nat) : Sound Go.Proofs.Try.prog 24 { ps := ps24, rs := rs24, f := sp24 N } := s24 N (sp51 N) (sp52 N) (sp53 N) (sp80 N) (ss51 N) (ss52 N) (ss53 N) (ss80 N)
noncomputable def sp21 (N : Nat) : Unit → Option D159 := F21 N (sp24 N)
theorem ss21 (N : Nat) : Sound Go.Proofs.Try.prog 21 { ps := ps21, rs := rs21, f := sp21 N } := s21 N (sp24 N) (ss24 N)
noncomputable def sp29 (N : Nat) : (D25 × Unit) → Option D159 := F29 N
theorem ss29 (N : Nat) : Sound Go.Proofs.Try.prog 29 { ps := ps29, rs := rs29, f := sp29 N } := s29 N
noncomputable def sp59 (N : Nat) : D87 → Option D159 := F59 N
theorem ss59 (N : Nat) : Sound Go.Proofs.Try.prog 59 { ps := ps59, rs := rs59, f := sp59 N } := s59 N
noncomputable def sp60 (N : Nat) : (D25 × D146) → Option D159 := F60 N
theorem ss60 (N : Nat) : Sound Go.Proofs.Try.prog 60 { ps := ps60, rs := rs60, f := sp60 N } := s60 N
noncomputable def sp61 (N : Nat) : (D25 × (D113 × Unit)) → Option D159 := F61 N (sp59 N) (sp60 N)
theorem ss61 (N : Nat) : Sound Go.Proofs.Try.prog 61 { ps := ps61, rs := rs61, f := sp61 N } := s61 N (sp59 N) (sp60 N) (ss59 N) (ss60 N)
noncomputable def sp30 (N : Nat) : (D25 × Unit) → Option D159 := F30 N (sp59 N) (sp60 N) (sp61 N)
theorem ss30 (N : Nat) : Sound Go.Proofs.Try.prog 30 { ps := ps30, rs := rs30, f := sp30 N } := s30 N (sp59 N) (sp60 N) (sp61 N) (ss59 N) (ss60 N) (ss61 N)
noncomputable def sp84 (N : Nat) : (D142 × Unit) → Option (Int × D159) := F84 N
theorem ss84 (N : Nat) : Sound Go.Proofs.Try.prog 84 { ps := ps84, rs := rs84, f := sp84 N } := s84 N
noncomputable def sp101 (N : Nat) : (D142 × (D142 × Unit)) → Option (D142 × Unit) := F101 N
theorem ss101 (N : Nat) : Sound Go.Proofs.Try.prog 101 { ps := ps101, rs := rs101, f := sp101 N } := s101 N
noncomputable def sp102 (N : Nat) : (D142 × Unit) → Option D159 := F102 N
theorem ss102 (N : Nat) : Sound Go.Proofs.Try.prog 102 { ps := ps102, rs := rs102, f := sp102 N } := s102 N
noncomputable def sp103 (N : Nat) : (D142 × (D142 × Unit)) → Option D159 := F103 N
theorem ss103 (N : Nat) : Sound Go.Proofs.Try.prog 103 { ps := ps103, rs := rs103, f := sp103 N } := s103 N
noncomputable def sp104 (N : Nat) : (D142 × (D142 × Unit)) → Option (D142 × Unit) := F104 N
theorem ss104 (N : Nat) : Sound Go.Proofs.Try.prog 104 { ps := ps104, rs := rs104, f := sp104 N } := s104 N
noncomputable def sp85 (N : Nat) : (D142 × (D142 × Unit)) → Option (D142 × Unit) := F85 N (sp101 N) (sp102 N) (sp103 N) (sp104 N)
theorem ss85 (N : Nat) : Sound Go.Proofs.Try.prog 85 { ps := ps85, rs := rs85, f := sp85 N } := s85 N (sp101 N) (sp102 N) (sp103 N) (sp104 N) (ss101 N) (ss102 N) (ss103 N) (ss104 N)
noncomputable def sp86 (N : Nat) : (Int × Unit) → Option (D142 × Unit) := F86 N
theorem ss86 (N : Nat) : Sound Go.Proofs.Try.prog 86 { ps := ps86, rs := rs86, f := sp86 N } := s86 N
noncomputable def sp109 (N : Nat) : D146 → Option (D142 × Unit) := F109 N (sp86 N) (sp101 N) (sp102 N)
theorem ss109 (N : Nat) : Sound Go.Proofs.Try.prog 109 { ps := ps109, rs := rs109, f := sp109 N } := s109 N (sp86 N) (sp101 N) (sp102 N) (ss86 N) (ss101 N) (ss102 N)
noncomputable def sp111 (N : Nat) : (D142 × Unit) → Option (D142 × Unit) := F111 N (sp102 N)
theorem ss111 (N : Nat) : Sound Go.Proofs.Try.prog 111 { ps := ps111, rs := rs111, f := sp111 N } := s111 N (sp102 N) (ss102 N)
noncomputable def sp116 (N : Nat) : (D142 × (D142 × Unit)) → Option D159 := F116 N (sp85 N) (sp111 N)
theorem ss116 (N : Nat) : Sound Go.Proofs.Try.prog 116 { ps := ps116, rs := rs116, f := sp116 N } := s116 N (sp85 N) (sp111 N) (ss85 N) (ss111 N)
noncomputable def sp114 (N : Nat) : (Int × (Int × (D142 × Unit))) → Option D159 := F114 N (sp109 N) (sp116 N)
theorem ss114 (N : Nat) : Sound Go.Proofs.Try.prog 114 { ps := ps114, rs := rs114, f := sp114 N } := s114 N (sp109 N) (sp116 N) (ss109 N) (ss116 N)
noncomputable def sp110 (N : Nat) : (D142 × (Int × Unit)) → Option (Int × D159) := F110 N (sp114 N)
theorem ss110 (N : Nat) : Sound Go.Proofs.Try.prog 110 { ps := ps110, rs := rs110, f := sp110 N } := s110 N (sp114 N) (ss114 N)
noncomputable def sp112 (N : Nat) : (D142 × D146) → Option (Int × D159) := F112 N (sp85 N) (sp109 N) (sp111 N)
theorem ss112 (N : Nat) : Sound Go.Proofs.Try.prog 112 { ps := ps112, rs := rs112, f := sp112 N } := s112 N (sp85 N) (sp109 N) (sp111 N) (ss85 N) (ss109 N) (ss111 N)
noncomputable def sp99 (N : Nat) : (Int × D87) → Option (Int × D159) := F99 N (sp85 N) (sp109 N) (sp110 N) (sp111 N) (sp112 N)
theorem ss99 (N : Nat) : Sound Go.Proofs.Try.prog 99 { ps := ps99, rs := rs99, f := sp99 N } := s99 N (sp85 N) (sp109 N) (sp110 N) (sp111 N) (sp112 N) (ss85 N) (ss109 N) (ss110 N) (ss111 N) (ss112 N)
noncomputable def sp107 (N : Nat) : (D113 × (Int × Unit)) → Option (Int × D159) := F107 N (sp84 N) (sp99 N) (sp109 N)
theorem ss107 (N : Nat) : Sound Go.Proofs.Try.prog 107 { ps := ps107, rs := rs107, f := sp107 N } := s107 N (sp84 N) (sp99 N) (sp109 N) (ss84 N) (ss99 N) (ss109 N)
noncomputable def sp108 (N : Nat) : (D113 × (Int × Unit)) → Option ((List D87) × Unit) := F108 N
theorem ss108 (N : Nat) : Sound Go.Proofs.Try.prog 108 { ps := ps108, rs := rs108, f := sp108 N } := s108 N
noncomputable def sp98 (N : Nat) : (D113 × (Int × Unit)) → Option (Int × D159) := F98 N (sp84 N) (sp85 N) (sp86 N) (sp107 N) (sp108 N) (sp109 N)
theorem ss98 (N : Nat) : Sound Go.Proofs.Try.prog 98 { ps := ps98, rs := rs98, f := sp98 N } := s98 N (sp84 N) (sp85 N) (sp86 N) (sp107 N) (sp108 N) (sp109 N) (ss84 N) (ss85 N) (ss86 N) (ss107 N) (ss108 N) (ss109 N)
noncomputable def sp82 (N : Nat) : (D113 × (Int × Unit)) → Option (Int × D159) := F82 N (sp98 N) (sp99 N)
theorem ss82 (N : Nat) : Sound Go.Proofs.Try.prog 82 { ps := ps82, rs := rs82, f := sp82 N } := s82 N (sp98 N) (sp99 N) (ss98 N) (ss99 N)
noncomputable def sp100 (N : Nat) : (D87 × (Int × Unit)) → Option (Int × D159) := F100 N (sp84 N) (sp85 N) (sp86 N) (sp99 N)
theorem ss100 (N : Nat) : Sound Go.Proofs.Try.prog 100 { ps := ps100, rs := rs100, f := sp100 N } := s100 N (sp84 N) (sp85 N) (sp86 N) (sp99 N) (ss84 N) (ss85 N) (ss86 N) (ss99 N)
noncomputable def sp83 (N : Nat) : (Int × ((List D87) × Unit)) → Option (Int × D159) := F83 N (sp100 N)
theorem ss83 (N : Nat) : Sound Go.Proofs.Try.prog 83 { ps := ps83, rs := rs83, f := sp83 N } := s83 N (sp100 N) (ss100 N)
noncomputable def sp57 (N : Nat) : (D113 × (Int × Unit)) → Option (Int × D159) := F57 N (sp82 N) (sp83 N)
theorem ss57 (N : Nat) : Sound Go.Proofs.Try.prog 57 { ps := ps57, rs := rs57, f := sp57 N } := s57 N (sp82 N) (sp83 N) (ss82 N) (ss83 N)
noncomputable def sp31 (N : Nat) : (D25 × Unit) → Option (Int × D159) := F31 N (sp57 N)
theorem ss31 (N : Nat) : Sound Go.Proofs.Try.prog 31 { ps := ps31, rs := rs31, f := sp31 N } := s31 N (sp57 N) (ss57 N)
noncomputable def sp7 (N : Nat) : (D25 × Unit) → Option D159 := F7 N (sp29 N) (sp30 N) (sp31 N)
theorem ss7 (N : Nat) : Sound Go.Proofs.Try.prog 7 { ps := ps7, rs := rs7, f := sp7 N } := s7 N (sp29 N) (sp30 N) (sp31 N) (ss29 N) (ss30 N) (ss31 N)
noncomputable def sp13 (N : Nat) : (D40 × (D40 × Unit)) → Option D159 := F13 N (sp38 N)
theorem ss13 (N : Nat) : Sound Go.Proofs.Try.prog 13 { ps := ps13, rs := rs13, f := sp13 N } := s13 N (sp38 N) (ss38 N)
noncomputable def sp62 (N : Nat) : (D25 × (Int × Unit)) → Option (Int × Unit) := F62 N
theorem ss62 (N : Nat) : Sound Go.Proofs.Try.prog 62 { ps := ps62, rs := rs62, f := sp62 N } := s62 N
noncomputable def sp32 (N : Nat) : (D25 × Unit) → Option ((List Int) × Unit) := F32 N (sp62 N)
theorem ss32 (N : Nat) : Sound Go.Proofs.Try.prog 32 { ps := ps32, rs := rs32, f := sp32 N } := s32 N (sp62 N) (ss62 N)
noncomputable def sp33 (N : Nat) : (D25 × (Int × Unit)) → Option (D40 × Unit) := F33 N (sp48 N) (sp57 N)
theorem ss33 (N : Nat) : Sound Go.Proofs.Try.prog 33 { ps := ps33, rs := rs33, f := sp33 N } := s33 N (sp48 N) (sp57 N) (ss48 N) (ss57 N)
noncomputable def sp8 (N : Nat) : (D25 × Unit) → Option (D31 × Unit) := F8 N (sp13 N) (sp32 N) (sp33 N)
theorem ss8 (N : Nat) : Sound Go.Proofs.Try.prog 8 { ps := ps8, rs := rs8, f := sp8 N } := s8 N (sp13 N) (sp32 N) (sp33 N) (ss13 N) (ss32 N) (ss33 N)
noncomputable def sp22 (N : Nat) : (D25 × (D25 × Unit)) → Option (D31 × (D31 × D159)) := F22 N (sp7 N) (sp8 N)
theorem ss22 (N : Nat) : Sound Go.Proofs.Try.prog 22 { ps := ps22, rs := rs22, f := sp22 N } := s22 N (sp7 N) (sp8 N) (ss7 N) (ss8 N)
noncomputable def sp50 (N : Nat) : ((List D67) × (ByteArray × Unit)) → Option (Int × Unit) := F50 N
theorem ss50 (N : Nat) : Sound Go.Proofs.Try.prog 50 { ps := ps50, rs := rs50, f := sp50 N } := s50 N
noncomputable def sp23 (N : Nat) : (D31 × (D31 × Unit)) → Option D159 := F23 N (sp50 N)
theorem ss23 (N : Nat) : Sound Go.Proofs.Try.prog 23 { ps := ps23, rs := rs23, f := sp23 N } := s23 N (sp50 N) (ss50 N)
noncomputable def sp55 (N : Nat) : D146 → Option (Int × D159) := F55 N
theorem ss55 (N : Nat) : Sound Go.Proofs.Try.prog 55 { ps := ps55, rs := rs55, f := sp55 N } := s55 N
noncomputable def sp15 (N : Nat) : (Int × ((List Int) × Unit)) → Option (D48 × Unit) := F15 N
theorem ss15 (N : Nat) : Sound Go.Proofs.Try.prog 15 { ps := ps15, rs := rs15, f := sp15 N } := s15 N
noncomputable def sp34 (N : Nat) : (D52 × (Int × Unit)) → Option (Int × D159) := F34 N
theorem ss34 (N : Nat) : Sound Go.Proofs.Try.prog 34 { ps := ps34, rs := rs34, f := sp34 N } := s34 N
noncomputable def sp17 (N : Nat) : (D52 × Unit) → Option (D48 × D159) := F17 N (sp15 N) (sp34 N)
theorem ss17 (N : Nat) : Sound Go.Proofs.Try.prog 17 { ps := ps17, rs := rs17, f := sp17 N } := s17 N (sp15 N) (sp34 N) (ss15 N) (ss34 N)
noncomputable def sp19 (N : Nat) : (D52 × Unit) → Option D159 := F19 N (sp16 N) (sp17 N) (sp47 N)
theorem ss19 (N : Nat) : Sound Go.Proofs.Try.prog 19 { ps := ps19, rs := rs19, f := sp19 N } := s19 N (sp16 N) (sp17 N) (sp47 N) (ss16 N) (ss17 N) (ss47 N)
noncomputable def sp93 (N : Nat) : (D52 × (D52 × Unit)) → Option (D48 × (D48 × D159)) := F93 N (sp17 N) (sp19 N)
theorem ss93 (N : Nat) : Sound Go.Proofs.Try.prog 93 { ps := ps93, rs := rs93, f := sp93 N } := s93 N (sp17 N) (sp19 N) (ss17 N) (ss19 N)
noncomputable def sp81 (N : Nat) : (D52 × (D52 × (Unit × Unit))) → Option (D52 × D159) := F81 N (sp16 N) (sp55 N) (sp93 N)
theorem ss81 (N : Nat) : Sound Go.Proofs.Try.prog 81 { ps := ps81, rs := rs81, f := sp81 N } := s81 N (sp16 N) (sp55 N) (sp93 N) (ss16 N) (ss55 N) (ss93 N)
noncomputable def sp56 (N : Nat) : (D52 × (D52 × Unit)) → Option (D52 × D159) := F56 N (sp81 N)
theorem ss56 (N : Nat) : Sound Go.Proofs.Try.prog 56 { ps := ps56, rs := rs56, f := sp56 N } := s56 N (sp81 N) (ss81 N)
noncomputable def sp25 (N : Nat) : (D69 × Unit) → Option (D40 × D159) := F25 N (sp55 N) (sp56 N)
theorem ss25 (N : Nat) : Sound Go.Proofs.Try.prog 25 { ps := ps25, rs := rs25, f := sp25 N } := s25 N (sp55 N) (sp56 N) (ss55 N) (ss56 N)
noncomputable def sp58 (N : Nat) : ((List Int) × Unit) → Option (Int × D159) := F58 N (sp84 N) (sp85 N) (sp86 N)
theorem ss58 (N : Nat) : Sound Go.Proofs.Try.prog 58 { ps := ps58, rs := rs58, f := sp58 N } := s58 N (sp84 N) (sp85 N) (sp86 N) (ss84 N) (ss85 N) (ss86 N)
noncomputable def sp27 (N : Nat) : (D25 × (Int × ((List Int) × Unit))) → Option D146 := F27 N (sp57 N) (sp58 N)
theorem ss27 (N : Nat) : Sound Go.Proofs.Try.prog 27 { ps := ps27, rs := rs27, f := sp27 N } := s27 N (sp57 N) (sp58 N) (ss57 N) (ss58 N)
noncomputable def sp28 (N : Nat) : (D25 × ((List D67) × ((List Int) × Unit))) → Option ((List Int) × Unit) := F28 N
theorem ss28 (N : Nat) : Sound Go.Proofs.Try.prog 28 { ps := ps28, rs := rs28, f := sp28 N } := s28 N
noncomputable def sp5 (N : Nat) : (D25 × (D25 × (Int × ((List Int) × Unit)))) → Option D159 := F5 N (sp20 N) (sp21 N) (sp22 N) (sp23 N) (sp24 N) (sp25 N) (sp26 N) (sp27 N) (sp28 N)
theorem ss5 (N : Nat) : Sound Go.Proofs.Try.prog 5 { ps := ps5, rs := rs5, f := sp5 N } := s5 N (sp20 N) (sp21 N) (sp22 N) (sp23 N) (sp24 N) (sp25 N) (sp26 N) (sp27 N) (sp28 N) (ss20 N) (ss21 N) (ss22 N) (ss23 N) (ss24 N) (ss25 N) (ss26 N) (ss27 N) (ss28 N)
end Go.Proofs.Ytkifmnocomadfaa
