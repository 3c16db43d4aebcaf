/- The readings put together. -/
import Derived.Test.YtkifmnocomadfaaWFa
import Derived.Test.YtkifmnocomadfaaWFb
import Derived.Test.YtkifmnocomadfaaWFc
import Derived.Test.YtkifmnocomadfaaWFd
import Derived.Test.YtkifmnocomadfaaWFe
import Derived.Test.YtkifmnocomadfaaWFf
import Derived.Test.YtkifmnocomadfaaWR
namespace Go.Proofs.Ytkifmnocomadfaa
open Go.V
noncomputable def sp63 (N : Nat) : (Int × Unit) → Option D159 := F63 N
theorem ss63 (N : Nat) : Sound Go.Proofs.Try.prog 63 { ps := ps63, rs := rs63, f := sp63 N } := s63 N
noncomputable def sp37 (N : Nat) : D146 → Option (Int × Unit) := F37 N (sp63 N)
theorem ss37 (N : Nat) : Sound Go.Proofs.Try.prog 37 { ps := ps37, rs := rs37, f := sp37 N } := s37 N (sp63 N) (ss63 N)
noncomputable def sp36 (N : Nat) : (D40 × (Int × Unit)) → Option (Int × Unit) := F36 N (sp37 N)
theorem ss36 (N : Nat) : Sound Go.Proofs.Try.prog 36 { ps := ps36, rs := rs36, f := sp36 N } := s36 N (sp37 N) (ss37 N)
noncomputable def sp35 (N : Nat) : ((List D40) × (Int × (Unit × Unit))) → Option (Int × D159) := F35 N (sp36 N)
theorem ss35 (N : Nat) : Sound Go.Proofs.Try.prog 35 { ps := ps35, rs := rs35, f := sp35 N } := s35 N (sp36 N) (ss36 N)
noncomputable def sp11 (N : Nat) : (D31 × (Int × Unit)) → Option (D40 × D159) := F11 N (sp35 N)
theorem ss11 (N : Nat) : Sound Go.Proofs.Try.prog 11 { ps := ps11, rs := rs11, f := sp11 N } := s11 N (sp35 N) (ss35 N)
noncomputable def sp34 (N : Nat) : (D52 × (Int × Unit)) → Option (Int × D159) := F34 N
theorem ss34 (N : Nat) : Sound Go.Proofs.Try.prog 34 { ps := ps34, rs := rs34, f := sp34 N } := s34 N
noncomputable def sp9 (N : Nat) : (D31 × (Int × ((List Int) × Unit))) → Option D146 := F9 N (sp11 N) (sp34 N)
theorem ss9 (N : Nat) : Sound Go.Proofs.Try.prog 9 { ps := ps9, rs := rs9, f := sp9 N } := s9 N (sp11 N) (sp34 N) (ss11 N) (ss34 N)
noncomputable def sp6 (N : Nat) : Unit → Option D159 := F6 N (sp9 N)
theorem ss6 (N : Nat) : Sound Go.Proofs.Try.prog 6 { ps := ps6, rs := rs6, f := sp6 N } := s6 N (sp9 N) (ss9 N)
noncomputable def sp29 (N : Nat) : (D25 × Unit) → Option D159 := F29 N
theorem ss29 (N : Nat) : Sound Go.Proofs.Try.prog 29 { ps := ps29, rs := rs29, f := sp29 N } := s29 N
noncomputable def sp59 (N : Nat) : D87 → Option D159 := F59 N
theorem ss59 (N : Nat) : Sound Go.Proofs.Try.prog 59 { ps := ps59, rs := rs59, f := sp59 N } := s59 N
noncomputable def sp60 (N : Nat) : (D25 × D146) → Option D159 := F60 N
theorem ss60 (N : Nat) : Sound Go.Proofs.Try.prog 60 { ps := ps60, rs := rs60, f := sp60 N } := s60 N
noncomputable def sp61 (N : Nat) : (D25 × (D113 × Unit)) → Option D159 := F61 N (sp59 N) (sp60 N)
theorem ss61 (N : Nat) : Sound Go.Proofs.Try.prog 61 { ps := ps61, rs := rs61, f := sp61 N } := s61 N (sp59 N) (sp60 N) (ss59 N) (ss60 N)
noncomputable def sp30 (N : Nat) : (D25 × Unit) → Option D159 := F30 N (sp59 N) (sp60 N) (sp61 N)
theorem ss30 (N : Nat) : Sound Go.Proofs.Try.prog 30 { ps := ps30, rs := rs30, f := sp30 N } := s30 N (sp59 N) (sp60 N) (sp61 N) (ss59 N) (ss60 N) (ss61 N)
noncomputable def sp84 (N : Nat) : (D142 × Unit) → Option (Int × D159) := F84 N
theorem ss84 (N : Nat) : Sound Go.Proofs.Try.prog 84 { ps := ps84, rs := rs84, f := sp84 N } := s84 N
noncomputable def sp101 (N : Nat) : (D142 × (D142 × Unit)) → Option (D142 × Unit) := F101 N
theorem ss101 (N : Nat) : Sound Go.Proofs.Try.prog 101 { ps := ps101, rs := rs101, f := sp101 N } := s101 N
noncomputable def sp102 (N : Nat) : (D142 × Unit) → Option D159 := F102 N
theorem ss102 (N : Nat) : Sound Go.Proofs.Try.prog 102 { ps := ps102, rs := rs102, f := sp102 N } := s102 N
noncomputable def sp103 (N : Nat) : (D142 × (D142 × Unit)) → Option D159 := F103 N
theorem ss103 (N : Nat) : Sound Go.Proofs.Try.prog 103 { ps := ps103, rs := rs103, f := sp103 N } := s103 N
noncomputable def sp104 (N : Nat) : (D142 × (D142 × Unit)) → Option (D142 × Unit) := F104 N
theorem ss104 (N : Nat) : Sound Go.Proofs.Try.prog 104 { ps := ps104, rs := rs104, f := sp104 N } := s104 N
noncomputable def sp85 (N : Nat) : (D142 × (D142 × Unit)) → Option (D142 × Unit) := F85 N (sp101 N) (sp102 N) (sp103 N) (sp104 N)
theorem ss85 (N : Nat) : Sound Go.Proofs.Try.prog 85 { ps := ps85, rs := rs85, f := sp85 N } := s85 N (sp101 N) (sp102 N) (sp103 N) (sp104 N) (ss101 N) (ss102 N) (ss103 N) (ss104 N)
noncomputable def sp86 (N : Nat) : (Int × Unit) → Option (D142 × Unit) := F86 N
theorem ss86 (N : Nat) : Sound Go.Proofs.Try.prog 86 { ps := ps86, rs := rs86, f := sp86 N } := s86 N
noncomputable def sp109 (N : Nat) : D146 → Option (D142 × Unit) := F109 N (sp86 N) (sp101 N) (sp102 N)
theorem ss109 (N : Nat) : Sound Go.Proofs.Try.prog 109 { ps := ps109, rs := rs109, f := sp109 N } := s109 N (sp86 N) (sp101 N) (sp102 N) (ss86 N) (ss101 N) (ss102 N)
noncomputable def sp111 (N : Nat) : (D142 × Unit) → Option (D142 × Unit) := F111 N (sp102 N)
theorem ss111 (N : Nat) : Sound Go.Proofs.Try.prog 111 { ps := ps111, rs := rs111, f := sp111 N } := s111 N (sp102 N) (ss102 N)
noncomputable def sp116 (N : Nat) : (D142 × (D142 × Unit)) → Option D159 := F116 N (sp85 N) (sp111 N)
theorem ss116 (N : Nat) : Sound Go.Proofs.Try.prog 116 { ps := ps116, rs := rs116, f := sp116 N } := s116 N (sp85 N) (sp111 N) (ss85 N) (ss111 N)
noncomputable def sp114 (N : Nat) : (Int × (Int × (D142 × Unit))) → Option D159 := F114 N (sp109 N) (sp116 N)
theorem ss114 (N : Nat) : Sound Go.Proofs.Try.prog 114 { ps := ps114, rs := rs114, f := sp114 N } := s114 N (sp109 N) (sp116 N) (ss109 N) (ss116 N)
noncomputable def sp110 (N : Nat) : (D142 × (Int × Unit)) → Option (Int × D159) := F110 N (sp114 N)
theorem ss110 (N : Nat) : Sound Go.Proofs.Try.prog 110 { ps := ps110, rs := rs110, f := sp110 N } := s110 N (sp114 N) (ss114 N)
noncomputable def sp112 (N : Nat) : (D142 × D146) → Option (Int × D159) := F112 N (sp85 N) (sp109 N) (sp111 N)
theorem ss112 (N : Nat) : Sound Go.Proofs.Try.prog 112 { ps := ps112, rs := rs112, f := sp112 N } := s112 N (sp85 N) (sp109 N) (sp111 N) (ss85 N) (ss109 N) (ss111 N)
noncomputable def sp99 (N : Nat) : (Int × D87) → Option (Int × D159) := F99 N (sp85 N) (sp109 N) (sp110 N) (sp111 N) (sp112 N)
theorem ss99 (N : Nat) : Sound Go.Proofs.Try.prog 99 { ps := ps99, rs := rs99, f := sp99 N } := s99 N (sp85 N) (sp109 N) (sp110 N) (sp111 N) (sp112 N) (ss85 N) (ss109 N) (ss110 N) (ss111 N) (ss112 N)
noncomputable def sp107 (N : Nat) : (D113 × (Int × Unit)) → Option (Int × D159) := F107 N (sp84 N) (sp99 N) (sp109 N)
theorem ss107 (N : Nat) : Sound Go.Proofs.Try.prog 107 { ps := ps107, rs := rs107, f := sp107 N } := s107 N (sp84 N) (sp99 N) (sp109 N) (ss84 N) (ss99 N) (ss109 N)
noncomputable def sp108 (N : Nat) : (D113 × (Int × Unit)) → Option ((List D87) × Unit) := F108 N
theorem ss108 (N : Nat) : Sound Go.Proofs.Try.prog 108 { ps := ps108, rs := rs108, f := sp108 N } := s108 N
noncomputable def sp98 (N : Nat) : (D113 × (Int × Unit)) → Option (Int × D159) := F98 N (sp84 N) (sp85 N) (sp86 N) (sp107 N) (sp108 N) (sp109 N)
theorem ss98 (N : Nat) : Sound Go.Proofs.Try.prog 98 { ps := ps98, rs := rs98, f := sp98 N } := s98 N (sp84 N) (sp85 N) (sp86 N) (sp107 N) (sp108 N) (sp109 N) (ss84 N) (ss85 N) (ss86 N) (ss107 N) (ss108 N) (ss109 N)
noncomputable def sp82 (N : Nat) : (D113 × (Int × Unit)) → Option (Int × D159) := F82 N (sp98 N) (sp99 N)
theorem ss82 (N : Nat) : Sound Go.Proofs.Try.prog 82 { ps := ps82, rs := rs82, f := sp82 N } := s82 N (sp98 N) (sp99 N) (ss98 N) (ss99 N)
noncomputable def sp100 (N : Nat) : (D87 × (Int × Unit)) → Option (Int × D159) := F100 N (sp84 N) (sp85 N) (sp86 N) (sp99 N)
theorem ss100 (N : Nat) : Sound Go.Proofs.Try.prog 100 { ps := ps100, rs := rs100, f := sp100 N } := s100 N (sp84 N) (sp85 N) (sp86 N) (sp99 N) (ss84 N) (ss85 N) (ss86 N) (ss99 N)
noncomputable def sp83 (N : Nat) : (Int × ((List D87) × Unit)) → Option (Int × D159) := F83 N (sp100 N)
theorem ss83 (N : Nat) : Sound Go.Proofs.Try.prog 83 { ps := ps83, rs := rs83, f := sp83 N } := s83 N (sp100 N) (ss100 N)
noncomputable def sp57 (N : Nat) : (D113 × (Int × Unit)) → Option (Int × D159) := F57 N (sp82 N) (sp83 N)
theorem ss57 (N : Nat) : Sound Go.Proofs.Try.prog 57 { ps := ps57, rs := rs57, f := sp57 N } := s57 N (sp82 N) (sp83 N) (ss82 N) (ss83 N)
noncomputable def sp31 (N : Nat) : (D25 × Unit) → Option (Int × D159) := F31 N (sp57 N)
theorem ss31 (N : Nat) : Sound Go.Proofs.Try.prog 31 { ps := ps31, rs := rs31, f := sp31 N } := s31 N (sp57 N) (ss57 N)
noncomputable def sp7 (N : Nat) : (D25 × Unit) → Option D159 := F7 N (sp29 N) (sp30 N) (sp31 N)
theorem ss7 (N : Nat) : Sound Go.Proofs.Try.prog 7 { ps := ps7, rs := rs7, f := sp7 N } := s7 N (sp29 N) (sp30 N) (sp31 N) (ss29 N) (ss30 N) (ss31 N)
noncomputable def sp38 (N : Nat) : (D52 × (D52 × Unit)) → Option D159 := F38 N
theorem ss38 (N : Nat) : Sound Go.Proofs.Try.prog 38 { ps := ps38, rs := rs38, f := sp38 N } := s38 N
noncomputable def sp13 (N : Nat) : (D40 × (D40 × Unit)) → Option D159 := F13 N (sp38 N)
theorem ss13 (N : Nat) : Sound Go.Proofs.Try.prog 13 { ps := ps13, rs := rs13, f := sp13 N } := s13 N (sp38 N) (ss38 N)
noncomputable def sp62 (N : Nat) : (D25 × (Int × Unit)) → Option (Int × Unit) := F62 N
theorem ss62 (N : Nat) : Sound Go.Proofs.Try.prog 62 { ps := ps62, rs := rs62, f := sp62 N } := s62 N
noncomputable def sp32 (N : Nat) : (D25 × Unit) → Option ((List Int) × Unit) := F32 N (sp62 N)
theorem ss32 (N : Nat) : Sound Go.Proofs.Try.prog 32 { ps := ps32, rs := rs32, f := sp32 N } := s32 N (sp62 N) (ss62 N)
noncomputable def sp48 (N : Nat) : ((List Int) × Unit) → Option (D52 × D159) := F48 N
theorem ss48 (N : Nat) : Sound Go.Proofs.Try.prog 48 { ps := ps48, rs := rs48, f := sp48 N } := s48 N
noncomputable def sp33 (N : Nat) : (D25 × (Int × Unit)) → Option (D40 × Unit) := F33 N (sp48 N) (sp57 N)
theorem ss33 (N : Nat) : Sound Go.Proofs.Try.prog 33 { ps := ps33, rs := rs33, f := sp33 N } := s33 N (sp48 N) (sp57 N) (ss48 N) (ss57 N)
noncomputable def sp8 (N : Nat) : (D25 × Unit) → Option (D31 × Unit) := F8 N (sp13 N) (sp32 N) (sp33 N)
theorem ss8 (N : Nat) : Sound Go.Proofs.Try.prog 8 { ps := ps8, rs := rs8, f := sp8 N } := s8 N (sp13 N) (sp32 N) (sp33 N) (ss13 N) (ss32 N) (ss33 N)
noncomputable def sp12 (N : Nat) : (D31 × (Int × Unit)) → Option (Int × Unit) := F12 N
theorem ss12 (N : Nat) : Sound Go.Proofs.Try.prog 12 { ps := ps12, rs := rs12, f := sp12 N } := s12 N
noncomputable def sp26 (N : Nat) : (D52 × (Int × Unit)) → Option (Int × D159) := F26 N
theorem ss26 (N : Nat) : Sound Go.Proofs.Try.prog 26 { ps := ps26, rs := rs26, f := sp26 N } := s26 N
noncomputable def sp10 (N : Nat) : (D31 × (Int × ((List Int) × Unit))) → Option D146 := F10 N (sp12 N) (sp26 N)
theorem ss10 (N : Nat) : Sound Go.Proofs.Try.prog 10 { ps := ps10, rs := rs10, f := sp10 N } := s10 N (sp12 N) (sp26 N) (ss12 N) (ss26 N)
noncomputable def sp3 (N : Nat) : (D25 × (Int × ((List Int) × Unit))) → Option D159 := F3 N (sp6 N) (sp7 N) (sp8 N) (sp9 N) (sp10 N) (sp11 N) (sp12 N) (sp13 N)
theorem ss3 (N : Nat) : Sound Go.Proofs.Try.prog 3 { ps := ps3, rs := rs3, f := sp3 N } := s3 N (sp6 N) (sp7 N) (sp8 N) (sp9 N) (sp10 N) (sp11 N) (sp12 N) (sp13 N) (ss6 N) (ss7 N) (ss8 N) (ss9 N) (ss10 N) (ss11 N) (ss12 N) (ss13 N)
noncomputable def sp15 (N : Nat) : (Int × ((List Int) × Unit)) → Option (D48 × Unit) := F15 N
theorem ss15 (N : Nat) : Sound Go.Proofs.Try.prog 15 { ps := ps15, rs := rs15, f := sp15 N } := s15 N
noncomputable def sp40 (N : Nat) : (D48 × Unit) → Option (Int × (Int × D159)) := F40 N
theorem ss40 (N : Nat) : Sound Go.Proofs.Try.prog 40 { ps := ps40, rs := rs40, f := sp40 N } := s40 N
noncomputable def sp65 (N : Nat) : D48 → Option (((List D87) × Unit) × Unit) := F65 N
theorem ss65 (N : Nat) : Sound Go.Proofs.Try.prog 65 { ps := ps65, rs := rs65, f := sp65 N } := s65 N
noncomputable def sp42 (N : Nat) : (D48 × Unit) → Option (((List D87) × Unit) × Unit) := F42 N (sp65 N)
theorem ss42 (N : Nat) : Sound Go.Proofs.Try.prog 42 { ps := ps42, rs := rs42, f := sp42 N } := s42 N (sp65 N) (ss65 N)
noncomputable def sp44 (N : Nat) : (D87 × Unit) → Option D159 := F44 N
theorem ss44 (N : Nat) : Sound Go.Proofs.Try.prog 44 { ps := ps44, rs := rs44, f := sp44 N } := s44 N
noncomputable def sp66 (N : Nat) : ((List D87) × (Unit × Unit)) → Option (Int × Unit) := F66 N (sp44 N)
theorem ss66 (N : Nat) : Sound Go.Proofs.Try.prog 66 { ps := ps66, rs := rs66, f := sp66 N } := s66 N (sp44 N) (ss44 N)
noncomputable def sp43 (N : Nat) : ((List D87) × (Unit × Unit)) → Option D159 := F43 N (sp66 N)
theorem ss43 (N : Nat) : Sound Go.Proofs.Try.prog 43 { ps := ps43, rs := rs43, f := sp43 N } := s43 N (sp66 N) (ss66 N)
noncomputable def sp45 (N : Nat) : D48 → Option (D77 × (Int × Unit)) := F45 N
theorem ss45 (N : Nat) : Sound Go.Proofs.Try.prog 45 { ps := ps45, rs := rs45, f := sp45 N } := s45 N
noncomputable def sp16 (N : Nat) : (D48 × Unit) → Option (D52 × D159) := F16 N (sp40 N) (sp41 N) (sp42 N) (sp43 N) (sp45 N)
theorem ss16 (N : Nat) : Sound Go.Proofs.Try.prog 16 { ps := ps16, rs := rs16, f := sp16 N } := s16 N (sp40 N) (sp41 N) (sp42 N) (sp43 N) (sp45 N) (ss40 N) (ss41 N) (ss42 N) (ss43 N) (ss45 N)
noncomputable def sp17 (N : Nat) : (D52 × Unit) → Option (D48 × D159) := F17 N (sp15 N) (sp34 N)
theorem ss17 (N : Nat) : Sound Go.Proofs.Try.prog 17 { ps := ps17, rs := rs17, f := sp17 N } := s17 N (sp15 N) (sp34 N) (ss15 N) (ss34 N)
noncomputable def sp67 (N : Nat) : ((List D77) × ((List D77) × Unit)) → Option D159 := F67 N
theorem ss67 (N : Nat) : Sound Go.Proofs.Try.prog 67 { ps := ps67, rs := rs67, f := sp67 N } := s67 N
noncomputable def sp47 (N : Nat) : (D52 × (D52 × Unit)) → Option D159 := F47 N (sp67 N)
theorem ss47 (N : Nat) : Sound Go.Proofs.Try.prog 47 { ps := ps47, rs := rs47, f := sp47 N } := s47 N (sp67 N) (ss67 N)
noncomputable def sp19 (N : Nat) : (D52 × Unit) → Option D159 := F19 N (sp16 N) (sp17 N) (sp47 N)
theorem ss19 (N : Nat) : Sound Go.Proofs.Try.prog 19 { ps := ps19, rs := rs19, f := sp19 N } := s19 N (sp16 N) (sp17 N) (sp47 N) (ss16 N) (ss17 N) (ss47 N)
noncomputable def sp14 (N : Nat) : Unit → Option D159 := F14 N (sp15 N) (sp16 N) (sp19 N) (sp34 N)
theorem ss14 (N : Nat) : Sound Go.Proofs.Try.prog 14 { ps := ps14, rs := rs14, f := sp14 N } := s14 N (sp15 N) (sp16 N) (sp19 N) (sp34 N) (ss15 N) (ss16 N) (ss19 N) (ss34 N)
noncomputable def sp46 (N : Nat) : ((List D87) × D48) → Option D159 := F46 N
theorem ss46 (N : Nat) : Sound Go.Proofs.Try.prog 46 { ps := ps46, rs := rs46, f := sp46 N } := s46 N
noncomputable def sp18 (N : Nat) : (D48 × (D48 × Unit)) → Option D159 := F18 N (sp46 N)
theorem ss18 (N : Nat) : Sound Go.Proofs.Try.prog 18 { ps := ps18, rs := rs18, f := sp18 N } := s18 N (sp46 N) (ss46 N)
noncomputable def sp49 (N : Nat) : (D52 × Unit) → Option ((List Int) × Unit) := F49 N (sp26 N)
theorem ss49 (N : Nat) : Sound Go.Proofs.Try.prog 49 { ps := ps49, rs := rs49, f := sp49 N } := s49 N (sp26 N) (ss26 N)
noncomputable def sp20 (N : Nat) : (D52 × Unit) → Option D159 := F20 N (sp38 N) (sp48 N) (sp49 N)
theorem ss20 (N : Nat) : Sound Go.Proofs.Try.prog 20 { ps := ps20, rs := rs20, f := sp20 N } := s20 N (sp38 N) (sp48 N) (sp49 N) (ss38 N) (ss48 N) (ss49 N)
noncomputable def sp4 (N : Nat) : ((List Int) × Unit) → Option D159 := F4 N (sp14 N) (sp15 N) (sp16 N) (sp17 N) (sp18 N) (sp19 N) (sp20 N)
theorem ss4 (N : Nat) : Sound Go.Proofs.Try.prog 4 { ps := ps4, rs := rs4, f := sp4 N } := s4 N (sp14 N) (sp15 N) (sp16 N) (sp17 N) (sp18 N) (sp19 N) (sp20 N) (ss14 N) (ss15 N) (ss16 N) (ss17 N) (ss18 N) (ss19 N) (ss20 N)
end Go.Proofs.Ytkifmnocomadfaa
