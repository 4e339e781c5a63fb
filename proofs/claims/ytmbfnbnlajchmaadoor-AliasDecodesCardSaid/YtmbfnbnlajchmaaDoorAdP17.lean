/- Made by a program of this seat's own (myprint.py, round the kit's print): what the functions compute, and that they do. -/
import Derived.Test.YtmbfnbnlajchmaaDoorAdP0
import Derived.Test.YtmbfnbnlajchmaaDoorAdP16
import Derived.Test.YtmbfnbnlajchmaaDoorAdTight
namespace Go.Proofs.YtmbfnbnlajchmaaDoor.P
open Go.RowKit Go.Proofs.YtmbfnbnlajchmaaDoorW.PrintWords Go.Proofs.YtmbfnbnlajchmaaDoorW.PrintLast Go.Proofs.YtmbfnbnlajchmaaDoorW.PrintMore
attribute [local go_sem] StrOrd.binOp_gtr StrOrd.binOp_leq max2_int min2_int max_two min_two max_three min_three max_four min_four   -- for this text's walks alone
set_option linter.unusedVariables false
set_option linter.unusedSimpArgs false

def isoglossref12_Made.f (k : Nat) (a0_0 : Int) (a0_1 : Int) (a0_2 : Int) (a0_3 : Int) (a0_4 : Int) (a0_5 : Int) (a0_6 : Int) : Option (Int × ByteArray × ByteArray × ByteArray × ByteArray × ByteArray) := if (wrap64 (1 + (Int.tmod (wrap64 ((Int.tmod a0_0 7) + 7)) 7))) = 1 then ((isoglossref12_toLangs.f).bind fun t438 => ((isoglossref06_Pick.f t438 a0_3).bind fun t441 => ((isoglossref06_Pick.f (([⟨#[]⟩, ⟨#[]⟩, ⟨#[108, 97, 116, 110]⟩] : List ByteArray)) a0_4).bind fun t445 => ((isoglossref06_Pick.f (([⟨#[]⟩, ⟨#[]⟩, ⟨#[117, 115]⟩] : List ByteArray)) a0_5).bind fun t449 => ((isoglossref12_spoilt.f k (wrap64 (1 + (Int.tmod (wrap64 ((Int.tmod a0_0 7) + 7)) 7))) (strOfNums (([(wrap64 (48 + (wrap64 (Int.tdiv (Int.tmod (wrap64 ((Int.tmod a0_1 26) + 26)) 26) 10)))) % 256, (wrap64 (48 + (Int.tmod (Int.tmod (wrap64 ((Int.tmod a0_1 26) + 26)) 26) 10))) % 256] : List Int))) (⟨#[]⟩ : ByteArray) t441 t445 t449 (Int.tmod (wrap64 ((Int.tmod a0_6 9) + 9)) 9)).bind fun bt450 => (some (bt450.1, bt450.2.1, bt450.2.2.1, bt450.2.2.2.1, bt450.2.2.2.2.1, bt450.2.2.2.2.2))))))) else (if (wrap64 (1 + (Int.tmod (wrap64 ((Int.tmod a0_0 7) + 7)) 7))) = 2 then ((isoglossref12_langs.f).bind fun t456 => ((isoglossref06_Pick.f t456 a0_1).bind fun t459 => ((isoglossref06_Pick.f (([⟨#[98, 114]⟩, ⟨#[99, 110]⟩, ⟨#[117, 115]⟩, ⟨#[100, 100]⟩] : List ByteArray)) a0_2).bind fun t463 => ((isoglossref12_toLangs.f).bind fun t464 => ((isoglossref06_Pick.f t464 a0_3).bind fun t467 => ((isoglossref12_spoilt.f k (wrap64 (1 + (Int.tmod (wrap64 ((Int.tmod a0_0 7) + 7)) 7))) t459 t463 t467 (⟨#[]⟩ : ByteArray) (⟨#[]⟩ : ByteArray) (Int.tmod (wrap64 ((Int.tmod a0_6 9) + 9)) 9)).bind fun bt468 => (some (bt468.1, bt468.2.1, bt468.2.2.1, bt468.2.2.2.1, bt468.2.2.2.2.1, bt468.2.2.2.2.2)))))))) else (if (wrap64 (1 + (Int.tmod (wrap64 ((Int.tmod a0_0 7) + 7)) 7))) = 3 then ((isoglossref12_langs.f).bind fun t474 => ((isoglossref06_Pick.f t474 a0_1).bind fun t477 => ((isoglossref12_toLangs.f).bind fun t478 => ((isoglossref06_Pick.f t478 a0_3).bind fun t481 => ((isoglossref06_Pick.f (([⟨#[]⟩, ⟨#[108, 97, 116, 110]⟩] : List ByteArray)) a0_4).bind fun t485 => ((isoglossref06_Pick.f (([⟨#[]⟩, ⟨#[]⟩, ⟨#[117, 115]⟩] : List ByteArray)) a0_5).bind fun t489 => ((isoglossref12_spoilt.f k (wrap64 (1 + (Int.tmod (wrap64 ((Int.tmod a0_0 7) + 7)) 7))) t477 (⟨#[]⟩ : ByteArray) t481 t485 t489 (Int.tmod (wrap64 ((Int.tmod a0_6 9) + 9)) 9)).bind fun bt490 => (some (bt490.1, bt490.2.1, bt490.2.2.1, bt490.2.2.2.1, bt490.2.2.2.2.1, bt490.2.2.2.2.2))))))))) else (if (wrap64 (1 + (Int.tmod (wrap64 ((Int.tmod a0_0 7) + 7)) 7))) = 4 then ((isoglossref12_scripts.f).bind fun t496 => ((isoglossref06_Pick.f t496 a0_1).bind fun t499 => ((isoglossref12_toScripts.f).bind fun t500 => ((isoglossref06_Pick.f t500 a0_4).bind fun t503 => ((isoglossref12_spoilt.f k (wrap64 (1 + (Int.tmod (wrap64 ((Int.tmod a0_0 7) + 7)) 7))) t499 (⟨#[]⟩ : ByteArray) (⟨#[]⟩ : ByteArray) t503 (⟨#[]⟩ : ByteArray) (Int.tmod (wrap64 ((Int.tmod a0_6 9) + 9)) 9)).bind fun bt504 => (some (bt504.1, bt504.2.1, bt504.2.2.1, bt504.2.2.2.1, bt504.2.2.2.2.1, bt504.2.2.2.2.2))))))) else (if (wrap64 (1 + (Int.tmod (wrap64 ((Int.tmod a0_0 7) + 7)) 7))) = 5 then ((isoglossref12_regions.f).bind fun t510 => ((isoglossref06_Pick.f t510 a0_1).bind fun t513 => ((isoglossref12_toRegions.f).bind fun t514 => ((isoglossref06_Pick.f t514 a0_5).bind fun t517 => ((isoglossref12_spoilt.f k (wrap64 (1 + (Int.tmod (wrap64 ((Int.tmod a0_0 7) + 7)) 7))) t513 (⟨#[]⟩ : ByteArray) (⟨#[]⟩ : ByteArray) (⟨#[]⟩ : ByteArray) t517 (Int.tmod (wrap64 ((Int.tmod a0_6 9) + 9)) 9)).bind fun bt518 => (some (bt518.1, bt518.2.1, bt518.2.2.1, bt518.2.2.2.1, bt518.2.2.2.2.1, bt518.2.2.2.2.2))))))) else (if (wrap64 (1 + (Int.tmod (wrap64 ((Int.tmod a0_0 7) + 7)) 7))) = 6 then ((isoglossref06_Pick.f (([⟨#[104, 101, 112, 108, 111, 99]⟩, ⟨#[97, 114, 101, 118, 101, 108, 97]⟩, ⟨#[49, 97, 50, 98]⟩] : List ByteArray)) a0_1).bind fun t527 => ((isoglossref06_Pick.f (([⟨#[]⟩, ⟨#[97, 108, 97, 108, 99, 57, 55]⟩, ⟨#[49, 57, 57, 52]⟩] : List ByteArray)) a0_3).bind fun t531 => ((isoglossref12_spoilt.f k (wrap64 (1 + (Int.tmod (wrap64 ((Int.tmod a0_0 7) + 7)) 7))) t527 (⟨#[]⟩ : ByteArray) t531 (⟨#[]⟩ : ByteArray) (⟨#[]⟩ : ByteArray) (Int.tmod (wrap64 ((Int.tmod a0_6 9) + 9)) 9)).bind fun bt532 => (some (bt532.1, bt532.2.1, bt532.2.2.1, bt532.2.2.2.1, bt532.2.2.2.2.1, bt532.2.2.2.2.2))))) else ((isoglossref06_Pick.f (([⟨#[99, 97]⟩, ⟨#[99, 111]⟩] : List ByteArray)) a0_1).bind fun t541 => ((isoglossref06_Pick.f (([⟨#[105, 115, 108, 97, 109, 105, 99, 99]⟩, ⟨#[97, 98, 49]⟩, ⟨#[112, 104, 111, 110, 101, 98, 107]⟩] : List ByteArray)) a0_2).bind fun t545 => ((isoglossref06_Pick.f (([⟨#[99, 105, 118, 105, 108]⟩, ⟨#[116, 114, 117, 101]⟩, ⟨#[115, 116, 97, 110, 100, 97, 114, 100]⟩] : List ByteArray)) a0_3).bind fun t549 => ((isoglossref12_spoilt.f k (wrap64 (1 + (Int.tmod (wrap64 ((Int.tmod a0_0 7) + 7)) 7))) t541 t545 t549 (⟨#[]⟩ : ByteArray) (⟨#[]⟩ : ByteArray) (Int.tmod (wrap64 ((Int.tmod a0_6 9) + 9)) 9)).bind fun bt550 => (some (bt550.1, bt550.2.1, bt550.2.2.1, bt550.2.2.2.1, bt550.2.2.2.2.1, bt550.2.2.2.2.2)))))))))))
set_option maxHeartbeats 8000000 in
set_option maxRecDepth 100000 in
theorem isoglossref12_Made.calls (k : Nat) (a0_0 : Int) (a0_1 : Int) (a0_2 : Int) (a0_3 : Int) (a0_4 : Int) (a0_5 : Int) (a0_6 : Int) (r1 : Int) (r2 : ByteArray) (r3 : ByteArray) (r4 : ByteArray) (r5 : ByteArray) (r6 : ByteArray) (w : World) (h : isoglossref12_Made.f k a0_0 a0_1 a0_2 a0_3 a0_4 a0_5 a0_6 = some (r1, r2, r3, r4, r5, r6)) :
  Calls Tryd.prog 34 #[.agg #[.int .i64 a0_0, .int .i64 a0_1, .int .i64 a0_2, .int .i64 a0_3, .int .i64 a0_4, .int .i64 a0_5, .int .i64 a0_6]] w fun e w' => e = .returned (.agg #[.int .i64 r1, .string r2, .string r3, .string r4, .string r5, .string r6]) ∧ Below w.heap.size w w' := by
 have hu52 := Tryd.underlying52
 have hu50 := Tryd.underlying50
 have HB := ak (Below.refl w.heap.size w)
 have H : (if (wrap64 (1 + (Int.tmod (wrap64 ((Int.tmod a0_0 7) + 7)) 7))) = 1 then ((isoglossref12_toLangs.f).bind fun t438 => ((isoglossref06_Pick.f t438 a0_3).bind fun t441 => ((isoglossref06_Pick.f (([⟨#[]⟩, ⟨#[]⟩, ⟨#[108, 97, 116, 110]⟩] : List ByteArray)) a0_4).bind fun t445 => ((isoglossref06_Pick.f (([⟨#[]⟩, ⟨#[]⟩, ⟨#[117, 115]⟩] : List ByteArray)) a0_5).bind fun t449 => ((isoglossref12_spoilt.f k (wrap64 (1 + (Int.tmod (wrap64 ((Int.tmod a0_0 7) + 7)) 7))) (strOfNums (([(wrap64 (48 + (wrap64 (Int.tdiv (Int.tmod (wrap64 ((Int.tmod a0_1 26) + 26)) 26) 10)))) % 256, (wrap64 (48 + (Int.tmod (Int.tmod (wrap64 ((Int.tmod a0_1 26) + 26)) 26) 10))) % 256] : List Int))) (⟨#[]⟩ : ByteArray) t441 t445 t449 (Int.tmod (wrap64 ((Int.tmod a0_6 9) + 9)) 9)).bind fun bt450 => (some (bt450.1, bt450.2.1, bt450.2.2.1, bt450.2.2.2.1, bt450.2.2.2.2.1, bt450.2.2.2.2.2))))))) else (if (wrap64 (1 + (Int.tmod (wrap64 ((Int.tmod a0_0 7) + 7)) 7))) = 2 then ((isoglossref12_langs.f).bind fun t456 => ((isoglossref06_Pick.f t456 a0_1).bind fun t459 => ((isoglossref06_Pick.f (([⟨#[98, 114]⟩, ⟨#[99, 110]⟩, ⟨#[117, 115]⟩, ⟨#[100, 100]⟩] : List ByteArray)) a0_2).bind fun t463 => ((isoglossref12_toLangs.f).bind fun t464 => ((isoglossref06_Pick.f t464 a0_3).bind fun t467 => ((isoglossref12_spoilt.f k (wrap64 (1 + (Int.tmod (wrap64 ((Int.tmod a0_0 7) + 7)) 7))) t459 t463 t467 (⟨#[]⟩ : ByteArray) (⟨#[]⟩ : ByteArray) (Int.tmod (wrap64 ((Int.tmod a0_6 9) + 9)) 9)).bind fun bt468 => (some (bt468.1, bt468.2.1, bt468.2.2.1, bt468.2.2.2.1, bt468.2.2.2.2.1, bt468.2.2.2.2.2)))))))) else (if (wrap64 (1 + (Int.tmod (wrap64 ((Int.tmod a0_0 7) + 7)) 7))) = 3 then ((isoglossref12_langs.f).bind fun t474 => ((isoglossref06_Pick.f t474 a0_1).bind fun t477 => ((isoglossref12_toLangs.f).bind fun t478 => ((isoglossref06_Pick.f t478 a0_3).bind fun t481 => ((isoglossref06_Pick.f (([⟨#[]⟩, ⟨#[108, 97, 116, 110]⟩] : List ByteArray)) a0_4).bind fun t485 => ((isoglossref06_Pick.f (([⟨#[]⟩, ⟨#[]⟩, ⟨#[117, 115]⟩] : List ByteArray)) a0_5).bind fun t489 => ((isoglossref12_spoilt.f k (wrap64 (1 + (Int.tmod (wrap64 ((Int.tmod a0_0 7) + 7)) 7))) t477 (⟨#[]⟩ : ByteArray) t481 t485 t489 (Int.tmod (wrap64 ((Int.tmod a0_6 9) + 9)) 9)).bind fun bt490 => (some (bt490.1, bt490.2.1, bt490.2.2.1, bt490.2.2.2.1, bt490.2.2.2.2.1, bt490.2.2.2.2.2))))))))) else (if (wrap64 (1 + (Int.tmod (wrap64 ((Int.tmod a0_0 7) + 7)) 7))) = 4 then ((isoglossref12_scripts.f).bind fun t496 => ((isoglossref06_Pick.f t496 a0_1).bind fun t499 => ((isoglossref12_toScripts.f).bind fun t500 => ((isoglossref06_Pick.f t500 a0_4).bind fun t503 => ((isoglossref12_spoilt.f k (wrap64 (1 + (Int.tmod (wrap64 ((Int.tmod a0_0 7) + 7)) 7))) t499 (⟨#[]⟩ : ByteArray) (⟨#[]⟩ : ByteArray) t503 (⟨#[]⟩ : ByteArray) (Int.tmod (wrap64 ((Int.tmod a0_6 9) + 9)) 9)).bind fun bt504 => (some (bt504.1, bt504.2.1, bt504.2.2.1, bt504.2.2.2.1, bt504.2.2.2.2.1, bt504.2.2.2.2.2))))))) else (if (wrap64 (1 + (Int.tmod (wrap64 ((Int.tmod a0_0 7) + 7)) 7))) = 5 then ((isoglossref12_regions.f).bind fun t510 => ((isoglossref06_Pick.f t510 a0_1).bind fun t513 => ((isoglossref12_toRegions.f).bind fun t514 => ((isoglossref06_Pick.f t514 a0_5).bind fun t517 => ((isoglossref12_spoilt.f k (wrap64 (1 + (Int.tmod (wrap64 ((Int.tmod a0_0 7) + 7)) 7))) t513 (⟨#[]⟩ : ByteArray) (⟨#[]⟩ : ByteArray) (⟨#[]⟩ : ByteArray) t517 (Int.tmod (wrap64 ((Int.tmod a0_6 9) + 9)) 9)).bind fun bt518 => (some (bt518.1, bt518.2.1, bt518.2.2.1, bt518.2.2.2.1, bt518.2.2.2.2.1, bt518.2.2.2.2.2))))))) else (if (wrap64 (1 + (Int.tmod (wrap64 ((Int.tmod a0_0 7) + 7)) 7))) = 6 then ((isoglossref06_Pick.f (([⟨#[104, 101, 112, 108, 111, 99]⟩, ⟨#[97, 114, 101, 118, 101, 108, 97]⟩, ⟨#[49, 97, 50, 98]⟩] : List ByteArray)) a0_1).bind fun t527 => ((isoglossref06_Pick.f (([⟨#[]⟩, ⟨#[97, 108, 97, 108, 99, 57, 55]⟩, ⟨#[49, 57, 57, 52]⟩] : List ByteArray)) a0_3).bind fun t531 => ((isoglossref12_spoilt.f k (wrap64 (1 + (Int.tmod (wrap64 ((Int.tmod a0_0 7) + 7)) 7))) t527 (⟨#[]⟩ : ByteArray) t531 (⟨#[]⟩ : ByteArray) (⟨#[]⟩ : ByteArray) (Int.tmod (wrap64 ((Int.tmod a0_6 9) + 9)) 9)).bind fun bt532 => (some (bt532.1, bt532.2.1, bt532.2.2.1, bt532.2.2.2.1, bt532.2.2.2.2.1, bt532.2.2.2.2.2))))) else ((isoglossref06_Pick.f (([⟨#[99, 97]⟩, ⟨#[99, 111]⟩] : List ByteArray)) a0_1).bind fun t541 => ((isoglossref06_Pick.f (([⟨#[105, 115, 108, 97, 109, 105, 99, 99]⟩, ⟨#[97, 98, 49]⟩, ⟨#[112, 104, 111, 110, 101, 98, 107]⟩] : List ByteArray)) a0_2).bind fun t545 => ((isoglossref06_Pick.f (([⟨#[99, 105, 118, 105, 108]⟩, ⟨#[116, 114, 117, 101]⟩, ⟨#[115, 116, 97, 110, 100, 97, 114, 100]⟩] : List ByteArray)) a0_3).bind fun t549 => ((isoglossref12_spoilt.f k (wrap64 (1 + (Int.tmod (wrap64 ((Int.tmod a0_0 7) + 7)) 7))) t541 t545 t549 (⟨#[]⟩ : ByteArray) (⟨#[]⟩ : ByteArray) (Int.tmod (wrap64 ((Int.tmod a0_6 9) + 9)) 9)).bind fun bt550 => (some (bt550.1, bt550.2.1, bt550.2.2.1, bt550.2.2.2.1, bt550.2.2.2.2.1, bt550.2.2.2.2.2)))))))))))) = some (r1, r2, r3, r4, r5, r6) := h
 clear h
 by_cases c2 : (wrap64 (1 + (Int.tmod (wrap64 ((Int.tmod a0_0 7) + 7)) 7))) = 1
 ·
  rw [if_pos c2] at H
  have c2b0 : ((wrap64 (1 + (Int.tmod (wrap64 ((Int.tmod a0_0 7) + 7)) 7))) == 1) = true := beq_iff_eq.mpr c2
  have c2b1 : ((wrap64 (1 + (Int.tmod (wrap64 ((Int.tmod a0_0 7) + 7)) 7))) != 1) = false := bne_eq_false_iff_eq.mpr c2
  (try (have c2b2 : ((wrap64 (1 + (Int.tmod (wrap64 ((Int.tmod a0_0 7) + 7)) 7))) : Int).toNat = 1 := by rw [c2]; rfl))
  clear c2
  obtain ⟨y435, hy435⟩ : ∃ y_ : List Int, y_ = (([(wrap64 (48 + (wrap64 (Int.tdiv (Int.tmod (wrap64 ((Int.tmod a0_1 26) + 26)) 26) 10)))) % 256, (wrap64 (48 + (Int.tmod (Int.tmod (wrap64 ((Int.tmod a0_1 26) + 26)) 26) 10))) % 256] : List Int)) := ⟨_, rfl⟩
  replace H : ((isoglossref12_toLangs.f).bind fun t438 => ((isoglossref06_Pick.f t438 a0_3).bind fun t441 => ((isoglossref06_Pick.f (([⟨#[]⟩, ⟨#[]⟩, ⟨#[108, 97, 116, 110]⟩] : List ByteArray)) a0_4).bind fun t445 => ((isoglossref06_Pick.f (([⟨#[]⟩, ⟨#[]⟩, ⟨#[117, 115]⟩] : List ByteArray)) a0_5).bind fun t449 => ((isoglossref12_spoilt.f k (wrap64 (1 + (Int.tmod (wrap64 ((Int.tmod a0_0 7) + 7)) 7))) (strOfNums y435) (⟨#[]⟩ : ByteArray) t441 t445 t449 (Int.tmod (wrap64 ((Int.tmod a0_6 9) + 9)) 9)).bind fun bt450 => (some (bt450.1, bt450.2.1, bt450.2.2.1, bt450.2.2.2.1, bt450.2.2.2.2.1, bt450.2.2.2.2.2))))))) = some (r1, r2, r3, r4, r5, r6) := by first | (rw [hy435]; with_reducible exact H) | (have H2_ := (Option.bind_some _ _).symm.trans H; rw [hy435]; with_reducible exact H2_) | (have H2_ := (Option.bind_some _ _).symm.trans H; with_reducible exact H2_) | with_reducible exact H | (rw [hy435]; exact H) | exact H
  have Ny435 := ak hy435
  clear hy435
  replace H := Option.bind_eq_some_iff.mp H
  obtain ⟨t438, A30, H⟩ := H
  have A3 := ak A30
  clear A30
  replace H := Option.bind_eq_some_iff.mp H
  obtain ⟨t441, A40, H⟩ := H
  have A4 := ak A40
  clear A40
  obtain ⟨y442, hy442⟩ : ∃ y_ : List ByteArray, y_ = (([⟨#[]⟩, ⟨#[]⟩, ⟨#[108, 97, 116, 110]⟩] : List ByteArray)) := ⟨_, rfl⟩
  replace H : ((isoglossref06_Pick.f y442 a0_4).bind fun t445 => ((isoglossref06_Pick.f (([⟨#[]⟩, ⟨#[]⟩, ⟨#[117, 115]⟩] : List ByteArray)) a0_5).bind fun t449 => ((isoglossref12_spoilt.f k (wrap64 (1 + (Int.tmod (wrap64 ((Int.tmod a0_0 7) + 7)) 7))) (strOfNums y435) (⟨#[]⟩ : ByteArray) t441 t445 t449 (Int.tmod (wrap64 ((Int.tmod a0_6 9) + 9)) 9)).bind fun bt450 => (some (bt450.1, bt450.2.1, bt450.2.2.1, bt450.2.2.2.1, bt450.2.2.2.2.1, bt450.2.2.2.2.2))))) = some (r1, r2, r3, r4, r5, r6) := by first | (rw [hy442]; with_reducible exact H) | (have H2_ := (Option.bind_some _ _).symm.trans H; rw [hy442]; with_reducible exact H2_) | (have H2_ := (Option.bind_some _ _).symm.trans H; with_reducible exact H2_) | with_reducible exact H | (rw [hy442]; exact H) | exact H
  have Ny442 := ak hy442
  clear hy442
  replace H := Option.bind_eq_some_iff.mp H
  obtain ⟨t445, A50, H⟩ := H
  have A5 := ak A50
  clear A50
  obtain ⟨y446, hy446⟩ : ∃ y_ : List ByteArray, y_ = (([⟨#[]⟩, ⟨#[]⟩, ⟨#[117, 115]⟩] : List ByteArray)) := ⟨_, rfl⟩
  replace H : ((isoglossref06_Pick.f y446 a0_5).bind fun t449 => ((isoglossref12_spoilt.f k (wrap64 (1 + (Int.tmod (wrap64 ((Int.tmod a0_0 7) + 7)) 7))) (strOfNums y435) (⟨#[]⟩ : ByteArray) t441 t445 t449 (Int.tmod (wrap64 ((Int.tmod a0_6 9) + 9)) 9)).bind fun bt450 => (some (bt450.1, bt450.2.1, bt450.2.2.1, bt450.2.2.2.1, bt450.2.2.2.2.1, bt450.2.2.2.2.2)))) = some (r1, r2, r3, r4, r5, r6) := by first | (rw [hy446]; with_reducible exact H) | (have H2_ := (Option.bind_some _ _).symm.trans H; rw [hy446]; with_reducible exact H2_) | (have H2_ := (Option.bind_some _ _).symm.trans H; with_reducible exact H2_) | with_reducible exact H | (rw [hy446]; exact H) | exact H
  have Ny446 := ak hy446
  clear hy446
  replace H := Option.bind_eq_some_iff.mp H
  obtain ⟨t449, A60, H⟩ := H
  have A6 := ak A60
  clear A60
  replace H := Option.bind_eq_some_iff.mp H
  obtain ⟨⟨t450, t451, t452, t453, t454, t455⟩, A70, H⟩ := H
  replace H : (some (t450, t451, t452, t453, t454, t455)) = some (r1, r2, r3, r4, r5, r6) := H
  have A7 := ak A70
  clear A70
  simp only [Option.some.injEq, Prod.mk.injEq] at H
  obtain ⟨rfl, rfl, rfl, rfl, rfl, rfl⟩ := H
  go_enter Tryd.func34, Tryd.ntmps34
  try go_wp2_with (first | ((with_reducible refine gate_dst (N := 1) rfl ?_); refine box_event ?hg (N := 1) ?hd (cs := #[.int .i64 a0_0, .int .i64 a0_1, .int .i64 a0_2, .int .i64 a0_3, .int .i64 a0_4, .int .i64 a0_5, .int .i64 a0_6]) (t := 52) ?hr ?_; (case hd => rfl); (case hg => rfl); (case hr => first | (go_simp; done) | (go_simp; rfl)); intro gb432 hg w8 hbox hb; have n0_ := ak (below_step bq hb); have n1_ := ak (hbox); have n2_ := ak ((by rw [hg]; exact (below_size bq) : w.heap.size ≤ gb432)); have n3_ := ak ((by rw [hg]; exact (below_size bq) : w.heap.size ≤ gb432)); clear HB; have HB := n0_; have BK432 := n1_; have GW432 := n2_; have GE432 := n3_; clear n0_ n1_ n2_ n3_; clear hb hbox hg) | ((with_reducible refine gate_dst (N := 2) rfl ?_); refine box_event ?hg (N := 2) ?hd (cs := #[.int .i64 0, .string ⟨#[]⟩, .string ⟨#[]⟩, .string ⟨#[]⟩, .string ⟨#[]⟩, .string ⟨#[]⟩]) (t := 50) ?hr ?_; (case hd => rfl); (case hg => rfl); (case hr => first | (go_simp; done) | (go_simp; rfl)); intro gb433 hg w9 hbox hb; have n0_ := ak (blk_below (g := gb432) (bx BK432.out) hb); have n1_ := ak (below_step bq hb); have n2_ := ak (hbox); have n3_ := ak ((by rw [hg]; exact (below_size bq) : w.heap.size ≤ gb433)); have n4_ := ak ((by rw [hg]; exact (below_size bq) : w.heap.size ≤ gb433)); have n5_ := ak ((by rw [hg]; exact Nat.ne_of_lt (blk_lt (g := gb432) (bx BK432.out)) : gb432 ≠ gb433)); have n6_ := ak ((by rw [hg]; exact Nat.ne_of_gt (blk_lt (g := gb432) (bx BK432.out)) : gb433 ≠ gb432)); clear BK432; clear HB; have BK432 := n0_; have HB := n1_; have BK433 := n2_; have GW433 := n3_; have GE433 := n4_; have NB432_433 := n5_; have NB433_432 := n6_; clear n0_ n1_ n2_ n3_ n4_ n5_ n6_; clear hb hbox hg; have hnb10 := NB432_433.out; have hnc10 := NB433_432.out; obtain ⟨hcz11_0, hcz11_1, hcz11_2, hcz11_3, hcz11_4, hcz11_5, hcz11_6⟩ := cz7 BK432.out; obtain ⟨hfz11_0, hfz11_1, hfz11_2, hfz11_3, hfz11_4, hfz11_5, hfz11_6⟩ := fz7 BK432.out) | ((with_reducible refine gate_dst (N := 3) rfl ?_); refine box_event ?hg (N := 3) ?hd (cs := #[.int .i64 0, .string ⟨#[]⟩, .string ⟨#[]⟩, .string ⟨#[]⟩, .string ⟨#[]⟩, .string ⟨#[]⟩]) (t := 50) ?hr ?_; (case hd => rfl); (case hg => rfl); (case hr => first | (go_simp; done) | (go_simp; rfl)); intro gb434 hg w12 hbox hb; have n0_ := ak (blk_below (g := gb432) (bx BK432.out) hb); have n1_ := ak (blk_below (g := gb433) (bx BK433.out) hb); have n2_ := ak (below_step bq hb); have n3_ := ak (hbox); have n4_ := ak ((by rw [hg]; exact (below_size bq) : w.heap.size ≤ gb434)); have n5_ := ak ((by rw [hg]; exact (below_size bq) : w.heap.size ≤ gb434)); have n6_ := ak ((by rw [hg]; exact Nat.ne_of_lt (blk_lt (g := gb432) (bx BK432.out)) : gb432 ≠ gb434)); have n7_ := ak ((by rw [hg]; exact Nat.ne_of_gt (blk_lt (g := gb432) (bx BK432.out)) : gb434 ≠ gb432)); have n8_ := ak ((by rw [hg]; exact Nat.ne_of_lt (blk_lt (g := gb433) (bx BK433.out)) : gb433 ≠ gb434)); have n9_ := ak ((by rw [hg]; exact Nat.ne_of_gt (blk_lt (g := gb433) (bx BK433.out)) : gb434 ≠ gb433)); clear BK432; clear BK433; clear HB; have BK432 := n0_; have BK433 := n1_; have HB := n2_; have BK434 := n3_; have GW434 := n4_; have GE434 := n5_; have NB432_434 := n6_; have NB434_432 := n7_; have NB433_434 := n8_; have NB434_433 := n9_; clear n0_ n1_ n2_ n3_ n4_ n5_ n6_ n7_ n8_ n9_; clear hb hbox hg; have hnb13 := NB434_432.out; have hnc13 := NB432_434.out; have hnb14 := NB434_433.out; have hnc14 := NB433_434.out; obtain ⟨hcz15_0, hcz15_1, hcz15_2, hcz15_3, hcz15_4, hcz15_5⟩ := cz6 BK434.out; obtain ⟨hfz15_0, hfz15_1, hfz15_2, hfz15_3, hfz15_4, hfz15_5⟩ := fz6 BK434.out; obtain ⟨hcz16_0, hcz16_1, hcz16_2, hcz16_3, hcz16_4, hcz16_5, hcz16_6⟩ := cz7 BK432.out; obtain ⟨hfz16_0, hfz16_1, hfz16_2, hfz16_3, hfz16_4, hfz16_5, hfz16_6⟩ := fz7 BK432.out) | ((with_reducible refine gate_dst (N := 44) rfl ?_); refine Kd.R_lit (Kd.int .u8) _ 5 ?hg (N := 44) ?hd (xs := ([(wrap64 (48 + (wrap64 (Int.tdiv (Int.tmod (wrap64 ((Int.tmod a0_1 26) + 26)) 26) 10)))) % 256, (wrap64 (48 + (Int.tmod (Int.tmod (wrap64 ((Int.tmod a0_1 26) + 26)) 26) 10))) % 256] : List Int)) (inner := [.int .u8 ((wrap64 (48 + (wrap64 (Int.tdiv (Int.tmod (wrap64 ((Int.tmod a0_1 26) + 26)) 26) 10)))) % 256), .int .u8 ((wrap64 (48 + (Int.tmod (Int.tmod (wrap64 ((Int.tmod a0_1 26) + 26)) 26) 10))) % 256)]) (ok := fun _ => True) (okp := fun _ => True) ?hr ?hp (fun _ hk => hk) trivial (Below.refl _ _) (Nat.le_refl _) (by simp) ?_; (case hd => rfl); (case hg => rfl); (case hr => first | (go_simp; done) | (go_simp; rfl)); (case hp => exact (Reps.one (show Kd.M (Kd.int .u8) _ _ _ ((wrap64 (48 + (wrap64 (Int.tdiv (Int.tmod (wrap64 ((Int.tmod a0_1 26) + 26)) 26) 10)))) % 256) [.int .u8 ((wrap64 (48 + (wrap64 (Int.tdiv (Int.tmod (wrap64 ((Int.tmod a0_1 26) + 26)) 26) 10)))) % 256)] from rfl) (Reps.one (show Kd.M (Kd.int .u8) _ _ _ ((wrap64 (48 + (Int.tmod (Int.tmod (wrap64 ((Int.tmod a0_1 26) + 26)) 26) 10))) % 256) [.int .u8 ((wrap64 (48 + (Int.tmod (Int.tmod (wrap64 ((Int.tmod a0_1 26) + 26)) 26) 10))) % 256)] from rfl) (Reps.none _ _)))); intro v436 w17 ho18 hb hg_ hnew_; clear hg_ hnew_; (first | rw [← Ny435.out] at ho18 | (simp only [Int.reduceToNat] at ho18; rw [← Ny435.out] at ho18)); have n0_ := ak (Kd.R_lower ho18 (below_size bq)); have n1_ := ak (blk_below (g := gb432) (o := .cells #[.int .i64 a0_0, .int .i64 a0_1, .int .i64 a0_2, .int .i64 a0_3, .int .i64 a0_4, .int .i64 a0_5, .int .i64 a0_6] 52 (0, 0)) (bx (blk_far (bx (blk_far (bx (blk_far (bx (blk_far (bx (blk_far (bx (blk_far (bx BK432.out) NB432_434.out _)) NB432_434.out _)) NB432_434.out _)) NB432_434.out _)) NB432_434.out _)) NB432_434.out _)) hb); have n2_ := ak (blk_below (g := gb433) (o := .cells #[.int .i64 0, .string ⟨#[]⟩, .string ⟨#[]⟩, .string ⟨#[]⟩, .string ⟨#[]⟩, .string ⟨#[]⟩] 50 (0, 0)) (bx (blk_far (bx (blk_far (bx (blk_far (bx (blk_far (bx (blk_far (bx (blk_far (bx BK433.out) NB433_434.out _)) NB433_434.out _)) NB433_434.out _)) NB433_434.out _)) NB433_434.out _)) NB433_434.out _)) hb); have n3_ := ak (blk_below (g := gb434) (o := .cells #[.int .i64 (wrap64 (1 + (Int.tmod (wrap64 ((Int.tmod a0_0 7) + 7)) 7))), .string ⟨#[]⟩, .string ⟨#[]⟩, .string ⟨#[]⟩, .string ⟨#[]⟩, .string ⟨#[]⟩] 50 (0, 0)) (bx (blk_put (cs := #[.int .i64 (wrap64 (1 + (Int.tmod (wrap64 ((Int.tmod a0_0 7) + 7)) 7))), .string ⟨#[]⟩, .string ⟨#[]⟩, .string ⟨#[]⟩, .string ⟨#[]⟩, .string ⟨#[]⟩]) (bx (blk_put (cs := #[.int .i64 (wrap64 (1 + (Int.tmod (wrap64 ((Int.tmod a0_0 7) + 7)) 7))), .string ⟨#[]⟩, .string ⟨#[]⟩, .string ⟨#[]⟩, .string ⟨#[]⟩, .string ⟨#[]⟩]) (bx (blk_put (cs := #[.int .i64 (wrap64 (1 + (Int.tmod (wrap64 ((Int.tmod a0_0 7) + 7)) 7))), .string ⟨#[]⟩, .string ⟨#[]⟩, .string ⟨#[]⟩, .string ⟨#[]⟩, .string ⟨#[]⟩]) (bx (blk_put (cs := #[.int .i64 (wrap64 (1 + (Int.tmod (wrap64 ((Int.tmod a0_0 7) + 7)) 7))), .string ⟨#[]⟩, .string ⟨#[]⟩, .string ⟨#[]⟩, .string ⟨#[]⟩, .string ⟨#[]⟩]) (bx (blk_put (cs := #[.int .i64 (wrap64 (1 + (Int.tmod (wrap64 ((Int.tmod a0_0 7) + 7)) 7))), .string ⟨#[]⟩, .string ⟨#[]⟩, .string ⟨#[]⟩, .string ⟨#[]⟩, .string ⟨#[]⟩]) (bx (blk_put (cs := #[.int .i64 0, .string ⟨#[]⟩, .string ⟨#[]⟩, .string ⟨#[]⟩, .string ⟨#[]⟩, .string ⟨#[]⟩]) (bx BK434.out) 0 _ rfl)) 1 _ rfl)) 2 _ rfl)) 3 _ rfl)) 4 _ rfl)) 5 _ rfl)) hb); have n4_ := ak (below_step bq hb); clear BK432; clear BK433; clear BK434; clear HB; have HO437 := n0_; have BK432 := n1_; have BK433 := n2_; have BK434 := n3_; have HB := n4_; clear n0_ n1_ n2_ n3_ n4_; clear hb ho18; have hcv19 := own_string (P := Tryd.prog) Tryd.underlying28 Tryd.underlying5 Tryd.underlying9 (Kd.own_of_R HO437.out); obtain ⟨hcz20_0, hcz20_1, hcz20_2, hcz20_3, hcz20_4, hcz20_5⟩ := cz6 BK434.out; obtain ⟨hfz20_0, hfz20_1, hfz20_2, hfz20_3, hfz20_4, hfz20_5⟩ := fz6 BK434.out))
  have n0_ : Aside0 (Kd.R (Kd.int .u8) 5 (w17.setCell ⟨gb434, 1, none⟩ (.string (strOfNums y435))) w.heap.size (fun _ => True) v436 y435) := ⟨(rx (Kd.R_mono (Kd.R_far (p := ⟨gb434, 1, none⟩) (Kd.R_types HO437.out BK434.out (by decide)) (fun _ hk => hk.2) (.string (strOfNums y435))) (fun _ hk => trivial)))⟩
  have n1_ : Aside0 ((w17.setCell ⟨gb434, 1, none⟩ (.string (strOfNums y435))).heap[gb432]? = some (.cells #[.int .i64 a0_0, .int .i64 a0_1, .int .i64 a0_2, .int .i64 a0_3, .int .i64 a0_4, .int .i64 a0_5, .int .i64 a0_6] 52 (0, 0))) := ⟨(bx (blk_far (bx BK432.out) NB432_434.out _))⟩
  have n2_ : Aside0 ((w17.setCell ⟨gb434, 1, none⟩ (.string (strOfNums y435))).heap[gb433]? = some (.cells #[.int .i64 0, .string ⟨#[]⟩, .string ⟨#[]⟩, .string ⟨#[]⟩, .string ⟨#[]⟩, .string ⟨#[]⟩] 50 (0, 0))) := ⟨(bx (blk_far (bx BK433.out) NB433_434.out _))⟩
  have n3_ : Aside0 ((w17.setCell ⟨gb434, 1, none⟩ (.string (strOfNums y435))).heap[gb434]? = some (.cells #[.int .i64 (wrap64 (1 + (Int.tmod (wrap64 ((Int.tmod a0_0 7) + 7)) 7))), .string (strOfNums y435), .string ⟨#[]⟩, .string ⟨#[]⟩, .string ⟨#[]⟩, .string ⟨#[]⟩] 50 (0, 0))) := ⟨(bx (blk_put (cs := #[.int .i64 (wrap64 (1 + (Int.tmod (wrap64 ((Int.tmod a0_0 7) + 7)) 7))), .string ⟨#[]⟩, .string ⟨#[]⟩, .string ⟨#[]⟩, .string ⟨#[]⟩, .string ⟨#[]⟩]) (bx BK434.out) 1 _ rfl))⟩
  have n4_ : Aside0 (Below w.heap.size w (w17.setCell ⟨gb434, 1, none⟩ (.string (strOfNums y435)))) := ⟨bq⟩
  (try clear HO437)
  (try clear BK432)
  (try clear BK433)
  (try clear BK434)
  (try clear HB)
  (try rw [setN])
  generalize (w17.setCell ⟨gb434, 1, none⟩ (.string (strOfNums y435))) = w21 at n0_ n1_ n2_ n3_ n4_ ⊢
  have HO437 := n0_
  have BK432 := n1_
  have BK433 := n2_
  have BK434 := n3_
  have HB := n4_
  clear n0_ n1_ n2_ n3_ n4_
  have n0_ := ak (Kd.R_drew HO437.out)
  have n1_ := ak (blk_drew BK432.out)
  have n2_ := ak (blk_drew BK433.out)
  have n3_ := ak (blk_drew BK434.out)
  have n4_ := ak (below_drew1 HB.out)
  clear HO437
  clear BK432
  clear BK433
  clear BK434
  clear HB
  have HO437 := n0_
  have BK432 := n1_
  have BK433 := n2_
  have BK434 := n3_
  have HB := n4_
  clear n0_ n1_ n2_ n3_ n4_
  refine start_ (n := 6) (S := fun w' => w'.cell? ⟨gb432, 0, none⟩ = some (.int .i64 a0_0) ∧ w'.cell? ⟨gb432, 1, none⟩ = some (.int .i64 a0_1) ∧ w'.cell? ⟨gb432, 2, none⟩ = some (.int .i64 a0_2) ∧ w'.cell? ⟨gb432, 3, none⟩ = some (.int .i64 a0_3) ∧ w'.cell? ⟨gb432, 4, none⟩ = some (.int .i64 a0_4) ∧ w'.cell? ⟨gb432, 5, none⟩ = some (.int .i64 a0_5) ∧ w'.cell? ⟨gb432, 6, none⟩ = some (.int .i64 a0_6)) (ds := []) #[false, false, false, false, false, false] (by kernel_rfl) rfl rfl ⟨(blk_cell BK432.out 0).trans rfl, (blk_cell BK432.out 1).trans rfl, (blk_cell BK432.out 2).trans rfl, (blk_cell BK432.out 3).trans rfl, (blk_cell BK432.out 4).trans rfl, (blk_cell BK432.out 5).trans rfl, (blk_cell BK432.out 6).trans rfl⟩ (fun hHeld => ?_)
  generalize w21.drew = w22 at HO437 BK432 BK433 BK434 HB hHeld ⊢
  refine pure_ (i := 1) (N := some 48) (v := ?_) (a' := ?_) (M 6 2) rfl rfl (by kernel_rfl) (fun _ _ _ h => h) (Or.inl ⟨by rfl, ?_⟩) ?_ ?_
  rotate_left
  ·
   intro w'
   go_simp
   with_reducible rfl
  rotate_left
  ·
   simp only [Act.put, pA, pB, pC, i64_w, i32_w]
   rfl
  refine take_ (i := 2) (N := some 49) (v := ?_) (a' := ?_) (M 6 6) rfl rfl (by kernel_rfl) (fun _ _ _ h => h) (Or.inl ⟨by rfl, ?_⟩) hHeld ?_ ?_
  rotate_left
  ·
   rintro w' ⟨s0, s1, s2, s3, s4, s5, s6⟩
   go_simp
   with_reducible rfl
  rotate_left
  ·
   simp only [Act.put, pA, pB, pC, i64_w, i32_w]
   rfl
  refine one_ (i := 0) (N := some 47) (M 6 7) rfl rfl (by kernel_rfl) (by decide) (fun K hK => ?_)
  refine goes_ Tryd.func57 (by kernel_rfl) rfl #[] (by rfl) rfl rfl mq ?_
  with_reducible refine (isoglossref12_toLangs.calls  t438 _ A3.out).mono ?_
  rintro e w23 ⟨v439, rfl, ho0, hb⟩
  refine ⟨_, rfl, ?_⟩
  have n0_ := ak (Kd.R_below (rx HO437.out) hb)
  have n1_ := ak (Kd.R_lower ho0 (below_size bq))
  have n2_ := ak (blk_below (g := gb432) (bx BK432.out) hb)
  have n3_ := ak (blk_below (g := gb433) (bx BK433.out) hb)
  have n4_ := ak (blk_below (g := gb434) (bx BK434.out) hb)
  have n5_ := ak (below_step bq hb)
  clear HO437
  clear BK432
  clear BK433
  clear BK434
  clear HB
  have HO437 := n0_
  have HO440 := n1_
  have BK432 := n2_
  have BK433 := n3_
  have BK434 := n4_
  have HB := n5_
  clear n0_ n1_ n2_ n3_ n4_ n5_
  (try clear hb)
  (try clear hb2)
  (try clear hk)
  (try clear hi)
  (try clear ho0)
  obtain ⟨Ao24, co24, eo24⟩ := Kd.R_slice HO440.out
  (first | subst eo24 | (injection eo24 with f1_ f2_ f3_; have f4_ := f1_.symm; have f5_ := f3_.symm; clear f1_ f2_ f3_; subst f4_; subst f5_))
  refine hK.out _ _ ⟨(blk_cell BK432.out 0).trans rfl, (blk_cell BK432.out 1).trans rfl, (blk_cell BK432.out 2).trans rfl, (blk_cell BK432.out 3).trans rfl, (blk_cell BK432.out 4).trans rfl, (blk_cell BK432.out 5).trans rfl, (blk_cell BK432.out 6).trans rfl⟩ (fun hHeld => ?_)
  clear hK K
  refine norm_ (a' := ?_) ?_ ?_
  rotate_left
  ·
   show Act.put _ (some 47) _ = _
   simp only [Act.put, pA, pB, pC, i64_w, i32_w]
   rfl
  refine one_ (i := 3) (N := some 50) (M 6 15) rfl rfl (by kernel_rfl) (by decide) (fun K hK => ?_)
  refine goes_ Tryd.func56 (by kernel_rfl) rfl #[.slice Ao24 t438.length co24, .int .i64 a0_3] (by rfl) rfl rfl mq ?_
  with_reducible refine (isoglossref06_Pick.calls _ _ t438 a0_3 t441 _ ?side1 ?side2 A4.out).mono ?_
  (case side1 => repeat (first | exact (Kd.R_reads' HO440.out).2.2 | (with_reducible refine Kd.C_alloc ?_ _) | (with_reducible refine Kd.C_drewN ?_ _) | (with_reducible refine Kd.C_drew ?_)))
  (case side2 => exact (Kd.R_reads' HO440.out).2.1)
  rintro e w' ⟨rfl, ⟨nd, rfl⟩⟩
  refine ⟨_, rfl, ?_⟩
  refine hK.out _ _ ⟨(blk_cell BK432.out 0).trans rfl, (blk_cell BK432.out 1).trans rfl, (blk_cell BK432.out 2).trans rfl, (blk_cell BK432.out 3).trans rfl, (blk_cell BK432.out 4).trans rfl, (blk_cell BK432.out 5).trans rfl, (blk_cell BK432.out 6).trans rfl⟩ (fun hHeld => ?_)
  clear hK K
  refine norm_ (a' := ?_) ?_ ?_
  rotate_left
  ·
   show Act.put _ (some 50) _ = _
   simp only [Act.put, pA, pB, pC, i64_w, i32_w]
   rfl
  refine pure_ (i := 4) (N := some 51) (v := ?_) (a' := ?_) (M 6 31) rfl rfl (by kernel_rfl) (fun _ _ _ h => h) (Or.inl ⟨by rfl, ?_⟩) ?_ ?_
  rotate_left
  ·
   intro w'
   go_simp
   with_reducible rfl
  rotate_left
  ·
   simp only [Act.put, pA, pB, pC, i64_w, i32_w]
   rfl
  refine one_ (i := 5) (N := none) (M 6 63) rfl rfl (by kernel_rfl) (by decide) (fun K hK => ?_)
  have hs25 : w23.cell? ⟨gb434, 3, none⟩ = some (.string ⟨#[]⟩) := (blk_cell BK434.out 3).trans rfl
  have hfs25 := blk_frozen BK434.out 3
  have hns25_0 := NB432_434.out
  have hns25_1 := NB433_434.out
  have hms25_0 := NB434_432.out
  have hms25_1 := NB434_433.out
  refine skip_ (w1 := ?_) (by rfl) rfl ?_ ?_
  rotate_left
  ·
   go_simp
   rfl
  refine hK.out _ _ ⟨((cell_far (p := ⟨gb434, _, none⟩) NB432_434.out _).trans (hHeld.1)), ((cell_far (p := ⟨gb434, _, none⟩) NB432_434.out _).trans (hHeld.2.1)), ((cell_far (p := ⟨gb434, _, none⟩) NB432_434.out _).trans (hHeld.2.2.1)), ((cell_far (p := ⟨gb434, _, none⟩) NB432_434.out _).trans (hHeld.2.2.2.1)), ((cell_far (p := ⟨gb434, _, none⟩) NB432_434.out _).trans (hHeld.2.2.2.2.1)), ((cell_far (p := ⟨gb434, _, none⟩) NB432_434.out _).trans (hHeld.2.2.2.2.2.1)), ((cell_far (p := ⟨gb434, _, none⟩) NB432_434.out _).trans (hHeld.2.2.2.2.2.2))⟩ (fun hHeld => ?_)
  clear hK K
  refine done_ (by kernel_rfl) ?_
  try go_wp2_with (first | ((with_reducible refine gate_dst (N := 52) rfl ?_); refine Kd.R_lit Kd.string _ 9 ?hg (N := 52) ?hd (xs := ([⟨#[]⟩, ⟨#[]⟩, ⟨#[108, 97, 116, 110]⟩] : List ByteArray)) (inner := [.string ⟨#[]⟩, .string ⟨#[]⟩, .string ⟨#[108, 97, 116, 110]⟩]) (ok := fun _ => True) (okp := fun _ => True) ?hr ?hp (fun _ hk => hk) trivial (Below.refl _ _) (Nat.le_refl _) (by simp) ?_; (case hd => rfl); (case hg => rfl); (case hr => first | (go_simp; done) | (go_simp; rfl)); (case hp => exact (Reps.one (show Kd.M Kd.string _ _ _ (⟨#[]⟩ : ByteArray) [.string ⟨#[]⟩] from rfl) (Reps.one (show Kd.M Kd.string _ _ _ (⟨#[]⟩ : ByteArray) [.string ⟨#[]⟩] from rfl) (Reps.one (show Kd.M Kd.string _ _ _ (⟨#[108, 97, 116, 110]⟩ : ByteArray) [.string ⟨#[108, 97, 116, 110]⟩] from rfl) (Reps.none _ _))))); intro v443 w26 ho27 hb hg_ hnew_; clear hg_ hnew_; (first | rw [← Ny442.out] at ho27 | (simp only [Int.reduceToNat] at ho27; rw [← Ny442.out] at ho27)); have n0_ := ak (Kd.R_below (rx ((Kd.R_mono (Kd.R_far (p := ⟨gb434, 3, none⟩) (Kd.R_types HO437.out BK434.out (by decide)) (fun _ hk => hk.2) (.string t441)) (fun _ h_ => h_.1)))) hb); have n1_ := ak (Kd.R_elder' (rx ((Kd.R_mono (Kd.R_far (p := ⟨gb434, 3, none⟩) (Kd.R_types HO440.out BK434.out (by decide)) (fun _ hk => hk.2) (.string t441)) (fun _ h_ => h_.1)))) (Kd.R_base ho27) hb); have n2_ := ak (Kd.R_lower (Kd.R_new' ho27 (Kd.R_lt (rx ((Kd.R_mono (Kd.R_far (p := ⟨gb434, 3, none⟩) (Kd.R_types HO440.out BK434.out (by decide)) (fun _ hk => hk.2) (.string t441)) (fun _ h_ => h_.1)))))) (below_size bq)); have n3_ := ak (blk_below (g := gb432) (o := .cells #[.int .i64 a0_0, .int .i64 a0_1, .int .i64 a0_2, .int .i64 a0_3, .int .i64 a0_4, .int .i64 a0_5, .int .i64 a0_6] 52 (0, 0)) (bx (blk_far (bx BK432.out) NB432_434.out _)) hb); have n4_ := ak (blk_below (g := gb433) (o := .cells #[.int .i64 0, .string ⟨#[]⟩, .string ⟨#[]⟩, .string ⟨#[]⟩, .string ⟨#[]⟩, .string ⟨#[]⟩] 50 (0, 0)) (bx (blk_far (bx BK433.out) NB433_434.out _)) hb); have n5_ := ak (blk_below (g := gb434) (o := .cells #[.int .i64 (wrap64 (1 + (Int.tmod (wrap64 ((Int.tmod a0_0 7) + 7)) 7))), .string (strOfNums y435), .string ⟨#[]⟩, .string t441, .string ⟨#[]⟩, .string ⟨#[]⟩] 50 (0, 0)) (bx (blk_put (cs := #[.int .i64 (wrap64 (1 + (Int.tmod (wrap64 ((Int.tmod a0_0 7) + 7)) 7))), .string (strOfNums y435), .string ⟨#[]⟩, .string ⟨#[]⟩, .string ⟨#[]⟩, .string ⟨#[]⟩]) (bx BK434.out) 3 _ rfl)) hb); have n6_ := ak (below_step bq hb); clear HO437; clear HO440; clear BK432; clear BK433; clear BK434; clear HB; have HO437 := n0_; have HO440 := n1_; have HO444 := n2_; have BK432 := n3_; have BK433 := n4_; have BK434 := n5_; have HB := n6_; clear n0_ n1_ n2_ n3_ n4_ n5_ n6_; clear hb ho27; obtain ⟨hcz28_0, hcz28_1, hcz28_2, hcz28_3, hcz28_4, hcz28_5, hcz28_6⟩ := cz7 BK432.out; obtain ⟨hfz28_0, hfz28_1, hfz28_2, hfz28_3, hfz28_4, hfz28_5, hfz28_6⟩ := fz7 BK432.out; obtain ⟨Ao29, co29, eo29⟩ := Kd.R_slice HO444.out; subst eo29) | ((with_reducible refine gate_callee (f := 56) rfl ?_); refine goesL_ (some 55) rfl rfl Tryd.func56 (by kernel_rfl) rfl #[.slice Ao29 y442.length co29, .int .i64 a0_4] rfl mq ?_; (with_reducible refine (isoglossref06_Pick.calls _ _ y442 a0_4 t445 _ ?side1 ?side2 A5.out).mono ?_); (case side1 => repeat (first | exact (Kd.R_reads' HO444.out).2.2 | (with_reducible refine Kd.C_alloc ?_ _) | (with_reducible refine Kd.C_drewN ?_ _) | (with_reducible refine Kd.C_drew ?_))); (case side2 => exact (Kd.R_reads' HO444.out).2.1); rintro e w' ⟨rfl, ⟨nd, rfl⟩⟩; refine ⟨_, rfl, ?_⟩; (try (rw [drewN_self w26]; generalize hq_ : World.drewN w26 _ = w26; have n0_ : Aside0 (Kd.R (Kd.int .u8) 5 w26 w.heap.size (fun _ => True) v436 y435) := ⟨by rw [← hq_]; exact (rx HO437.out)⟩; have n1_ : Aside0 (Kd.R Kd.string 9 w26 w.heap.size (fun k_ => some k_ ≠ (.slice Ao29 y442.length co29 : Value).ownBlock) (.slice Ao24 t438.length co24) t438) := ⟨by rw [← hq_]; exact (rx (Kd.R_mono HO440.out (fun _ hk => hk.2)))⟩; have n2_ : Aside0 (Kd.R Kd.string 9 w26 w.heap.size (fun k_ => some k_ ≠ (.slice Ao24 t438.length co24 : Value).ownBlock) (.slice Ao29 y442.length co29) y442) := ⟨by rw [← hq_]; exact (rx (Kd.R_mono HO444.out (fun _ hk => hk.2)))⟩; have n3_ : Aside0 (w26.heap[gb432]? = some (.cells #[.int .i64 a0_0, .int .i64 a0_1, .int .i64 a0_2, .int .i64 a0_3, .int .i64 a0_4, .int .i64 a0_5, .int .i64 a0_6] 52 (0, 0))) := ⟨by rw [← hq_]; exact (bx BK432.out)⟩; have n4_ : Aside0 (w26.heap[gb433]? = some (.cells #[.int .i64 0, .string ⟨#[]⟩, .string ⟨#[]⟩, .string ⟨#[]⟩, .string ⟨#[]⟩, .string ⟨#[]⟩] 50 (0, 0))) := ⟨by rw [← hq_]; exact (bx BK433.out)⟩; have n5_ : Aside0 (w26.heap[gb434]? = some (.cells #[.int .i64 (wrap64 (1 + (Int.tmod (wrap64 ((Int.tmod a0_0 7) + 7)) 7))), .string (strOfNums y435), .string ⟨#[]⟩, .string t441, .string ⟨#[]⟩, .string ⟨#[]⟩] 50 (0, 0))) := ⟨by rw [← hq_]; exact (bx BK434.out)⟩; have n6_ : Aside0 (Below w.heap.size w w26) := ⟨by rw [← hq_]; exact bq⟩; clear HO437 HO440 HO444 BK432 BK433 BK434 HB hq_; have HO437 := n0_; have HO440 := n1_; have HO444 := n2_; have BK432 := n3_; have BK433 := n4_; have BK434 := n5_; have HB := n6_; clear n0_ n1_ n2_ n3_ n4_ n5_ n6_; obtain ⟨hczq_0, hczq_1, hczq_2, hczq_3, hczq_4, hczq_5, hczq_6⟩ := cz7 BK432.out)); obtain ⟨hcz30_0, hcz30_1, hcz30_2, hcz30_3, hcz30_4, hcz30_5⟩ := cz6 BK434.out; obtain ⟨hfz30_0, hfz30_1, hfz30_2, hfz30_3, hfz30_4, hfz30_5⟩ := fz6 BK434.out; (try clear A5)) | ((with_reducible refine gate_dst (N := 57) rfl ?_); refine Kd.R_lit Kd.string _ 9 ?hg (N := 57) ?hd (xs := ([⟨#[]⟩, ⟨#[]⟩, ⟨#[117, 115]⟩] : List ByteArray)) (inner := [.string ⟨#[]⟩, .string ⟨#[]⟩, .string ⟨#[117, 115]⟩]) (ok := fun _ => True) (okp := fun _ => True) ?hr ?hp (fun _ hk => hk) trivial (Below.refl _ _) (Nat.le_refl _) (by simp) ?_; (case hd => rfl); (case hg => rfl); (case hr => first | (go_simp; done) | (go_simp; rfl)); (case hp => exact (Reps.one (show Kd.M Kd.string _ _ _ (⟨#[]⟩ : ByteArray) [.string ⟨#[]⟩] from rfl) (Reps.one (show Kd.M Kd.string _ _ _ (⟨#[]⟩ : ByteArray) [.string ⟨#[]⟩] from rfl) (Reps.one (show Kd.M Kd.string _ _ _ (⟨#[117, 115]⟩ : ByteArray) [.string ⟨#[117, 115]⟩] from rfl) (Reps.none _ _))))); intro v447 w31 ho32 hb hg_ hnew_; clear hg_ hnew_; (first | rw [← Ny446.out] at ho32 | (simp only [Int.reduceToNat] at ho32; rw [← Ny446.out] at ho32)); have n0_ := ak (Kd.R_below (rx ((Kd.R_mono (Kd.R_far (p := ⟨gb434, 4, none⟩) (Kd.R_types HO437.out BK434.out (by decide)) (fun _ hk => hk.2) (.string t445)) (fun _ h_ => h_.1)))) hb); have n1_ := ak (Kd.R_elder' (rx ((Kd.R_mono (Kd.R_far (p := ⟨gb434, 4, none⟩) (Kd.R_types HO440.out BK434.out (by decide)) (fun _ hk => hk.2) (.string t445)) (fun _ h_ => h_.1)))) (Kd.R_base ho32) hb); have n2_ := ak (Kd.R_elder' (rx ((Kd.R_mono (Kd.R_far (p := ⟨gb434, 4, none⟩) (Kd.R_types HO444.out BK434.out (by decide)) (fun _ hk => hk.2) (.string t445)) (fun _ h_ => h_.1)))) (Kd.R_base ho32) hb); have n3_ := ak (Kd.R_lower (Kd.R_new' (Kd.R_new' ho32 (Kd.R_lt (rx ((Kd.R_mono (Kd.R_far (p := ⟨gb434, 4, none⟩) (Kd.R_types HO440.out BK434.out (by decide)) (fun _ hk => hk.2) (.string t445)) (fun _ h_ => h_.1)))))) (Kd.R_lt (rx ((Kd.R_mono (Kd.R_far (p := ⟨gb434, 4, none⟩) (Kd.R_types HO444.out BK434.out (by decide)) (fun _ hk => hk.2) (.string t445)) (fun _ h_ => h_.1)))))) (below_size bq)); have n4_ := ak (blk_below (g := gb432) (o := .cells #[.int .i64 a0_0, .int .i64 a0_1, .int .i64 a0_2, .int .i64 a0_3, .int .i64 a0_4, .int .i64 a0_5, .int .i64 a0_6] 52 (0, 0)) (bx (blk_far (bx BK432.out) NB432_434.out _)) hb); have n5_ := ak (blk_below (g := gb433) (o := .cells #[.int .i64 0, .string ⟨#[]⟩, .string ⟨#[]⟩, .string ⟨#[]⟩, .string ⟨#[]⟩, .string ⟨#[]⟩] 50 (0, 0)) (bx (blk_far (bx BK433.out) NB433_434.out _)) hb); have n6_ := ak (blk_below (g := gb434) (o := .cells #[.int .i64 (wrap64 (1 + (Int.tmod (wrap64 ((Int.tmod a0_0 7) + 7)) 7))), .string (strOfNums y435), .string ⟨#[]⟩, .string t441, .string t445, .string ⟨#[]⟩] 50 (0, 0)) (bx (blk_put (cs := #[.int .i64 (wrap64 (1 + (Int.tmod (wrap64 ((Int.tmod a0_0 7) + 7)) 7))), .string (strOfNums y435), .string ⟨#[]⟩, .string t441, .string ⟨#[]⟩, .string ⟨#[]⟩]) (bx BK434.out) 4 _ rfl)) hb); have n7_ := ak (below_step bq hb); clear HO437; clear HO440; clear HO444; clear BK432; clear BK433; clear BK434; clear HB; have HO437 := n0_; have HO440 := n1_; have HO444 := n2_; have HO448 := n3_; have BK432 := n4_; have BK433 := n5_; have BK434 := n6_; have HB := n7_; clear n0_ n1_ n2_ n3_ n4_ n5_ n6_ n7_; clear hb ho32; obtain ⟨hcz33_0, hcz33_1, hcz33_2, hcz33_3, hcz33_4, hcz33_5, hcz33_6⟩ := cz7 BK432.out; obtain ⟨hfz33_0, hfz33_1, hfz33_2, hfz33_3, hfz33_4, hfz33_5, hfz33_6⟩ := fz7 BK432.out; obtain ⟨Ao34, co34, eo34⟩ := Kd.R_slice HO448.out; subst eo34) | ((with_reducible refine gate_callee (f := 56) rfl ?_); refine goesL_ (some 60) rfl rfl Tryd.func56 (by kernel_rfl) rfl #[.slice Ao34 y446.length co34, .int .i64 a0_5] rfl mq ?_; (with_reducible refine (isoglossref06_Pick.calls _ _ y446 a0_5 t449 _ ?side1 ?side2 A6.out).mono ?_); (case side1 => repeat (first | exact (Kd.R_reads' HO448.out).2.2 | (with_reducible refine Kd.C_alloc ?_ _) | (with_reducible refine Kd.C_drewN ?_ _) | (with_reducible refine Kd.C_drew ?_))); (case side2 => exact (Kd.R_reads' HO448.out).2.1); rintro e w' ⟨rfl, ⟨nd, rfl⟩⟩; refine ⟨_, rfl, ?_⟩; (try (rw [drewN_self w31]; generalize hq_ : World.drewN w31 _ = w31; have n0_ : Aside0 (Kd.R (Kd.int .u8) 5 w31 w.heap.size (fun _ => True) v436 y435) := ⟨by rw [← hq_]; exact (rx HO437.out)⟩; have n1_ : Aside0 (Kd.R Kd.string 9 w31 w.heap.size (fun k_ => some k_ ≠ (.slice Ao29 y442.length co29 : Value).ownBlock ∧ some k_ ≠ (.slice Ao34 y446.length co34 : Value).ownBlock) (.slice Ao24 t438.length co24) t438) := ⟨by rw [← hq_]; exact (rx (Kd.R_mono HO440.out (fun _ hk => ⟨hk.1.2, hk.2⟩)))⟩; have n2_ : Aside0 (Kd.R Kd.string 9 w31 w.heap.size (fun k_ => some k_ ≠ (.slice Ao24 t438.length co24 : Value).ownBlock ∧ some k_ ≠ (.slice Ao34 y446.length co34 : Value).ownBlock) (.slice Ao29 y442.length co29) y442) := ⟨by rw [← hq_]; exact (rx (Kd.R_mono HO444.out (fun _ hk => ⟨hk.1.2, hk.2⟩)))⟩; have n3_ : Aside0 (Kd.R Kd.string 9 w31 w.heap.size (fun k_ => some k_ ≠ (.slice Ao24 t438.length co24 : Value).ownBlock ∧ some k_ ≠ (.slice Ao29 y442.length co29 : Value).ownBlock) (.slice Ao34 y446.length co34) y446) := ⟨by rw [← hq_]; exact (rx (Kd.R_mono HO448.out (fun _ hk => ⟨hk.1.2, hk.2⟩)))⟩; have n4_ : Aside0 (w31.heap[gb432]? = some (.cells #[.int .i64 a0_0, .int .i64 a0_1, .int .i64 a0_2, .int .i64 a0_3, .int .i64 a0_4, .int .i64 a0_5, .int .i64 a0_6] 52 (0, 0))) := ⟨by rw [← hq_]; exact (bx BK432.out)⟩; have n5_ : Aside0 (w31.heap[gb433]? = some (.cells #[.int .i64 0, .string ⟨#[]⟩, .string ⟨#[]⟩, .string ⟨#[]⟩, .string ⟨#[]⟩, .string ⟨#[]⟩] 50 (0, 0))) := ⟨by rw [← hq_]; exact (bx BK433.out)⟩; have n6_ : Aside0 (w31.heap[gb434]? = some (.cells #[.int .i64 (wrap64 (1 + (Int.tmod (wrap64 ((Int.tmod a0_0 7) + 7)) 7))), .string (strOfNums y435), .string ⟨#[]⟩, .string t441, .string t445, .string ⟨#[]⟩] 50 (0, 0))) := ⟨by rw [← hq_]; exact (bx BK434.out)⟩; have n7_ : Aside0 (Below w.heap.size w w31) := ⟨by rw [← hq_]; exact bq⟩; clear HO437 HO440 HO444 HO448 BK432 BK433 BK434 HB hq_; have HO437 := n0_; have HO440 := n1_; have HO444 := n2_; have HO448 := n3_; have BK432 := n4_; have BK433 := n5_; have BK434 := n6_; have HB := n7_; clear n0_ n1_ n2_ n3_ n4_ n5_ n6_ n7_; obtain ⟨hczq_0, hczq_1, hczq_2, hczq_3, hczq_4, hczq_5, hczq_6⟩ := cz7 BK432.out)); obtain ⟨hcz35_0, hcz35_1, hcz35_2, hcz35_3, hcz35_4, hcz35_5⟩ := cz6 BK434.out; obtain ⟨hfz35_0, hfz35_1, hfz35_2, hfz35_3, hfz35_4, hfz35_5⟩ := fz6 BK434.out; (try clear A6)) | ((with_reducible refine gate_callee (f := 63) rfl ?_); refine goesL_ (some 143) rfl rfl Tryd.func63 (by kernel_rfl) rfl #[.agg #[.int .i64 (wrap64 (1 + (Int.tmod (wrap64 ((Int.tmod a0_0 7) + 7)) 7))), .string (strOfNums y435), .string ⟨#[]⟩, .string t441, .string t445, .string t449], .int .i64 (Int.tmod (wrap64 ((Int.tmod a0_6 9) + 9)) 9)] rfl mq ?_; (with_reducible refine (isoglossref12_spoilt.calls k (wrap64 (1 + (Int.tmod (wrap64 ((Int.tmod a0_0 7) + 7)) 7))) (strOfNums y435) (⟨#[]⟩ : ByteArray) t441 t445 t449 (Int.tmod (wrap64 ((Int.tmod a0_6 9) + 9)) 9) t450 t451 t452 t453 t454 t455 _ A7.out).mono ?_); rintro e w36 ⟨rfl, hb⟩; refine ⟨_, rfl, ?_⟩; have n0_ := ak (Kd.R_below (rx ((Kd.R_mono (Kd.R_far (p := ⟨gb434, 5, none⟩) (Kd.R_types HO437.out BK434.out (by decide)) (fun _ hk => hk.2) (.string t449)) (fun _ h_ => h_.1)))) hb); have n1_ := ak (Kd.R_below (rx ((Kd.R_mono (Kd.R_far (p := ⟨gb434, 5, none⟩) (Kd.R_types HO440.out BK434.out (by decide)) (fun _ hk => hk.2) (.string t449)) (fun _ h_ => h_.1)))) hb); have n2_ := ak (Kd.R_below (rx ((Kd.R_mono (Kd.R_far (p := ⟨gb434, 5, none⟩) (Kd.R_types HO444.out BK434.out (by decide)) (fun _ hk => hk.2) (.string t449)) (fun _ h_ => h_.1)))) hb); have n3_ := ak (Kd.R_below (rx ((Kd.R_mono (Kd.R_far (p := ⟨gb434, 5, none⟩) (Kd.R_types HO448.out BK434.out (by decide)) (fun _ hk => hk.2) (.string t449)) (fun _ h_ => h_.1)))) hb); have n4_ := ak (blk_below (g := gb432) (o := .cells #[.int .i64 a0_0, .int .i64 a0_1, .int .i64 a0_2, .int .i64 a0_3, .int .i64 a0_4, .int .i64 a0_5, .int .i64 a0_6] 52 (0, 0)) (bx (blk_far (bx BK432.out) NB432_434.out _)) hb); have n5_ := ak (blk_below (g := gb433) (o := .cells #[.int .i64 0, .string ⟨#[]⟩, .string ⟨#[]⟩, .string ⟨#[]⟩, .string ⟨#[]⟩, .string ⟨#[]⟩] 50 (0, 0)) (bx (blk_far (bx BK433.out) NB433_434.out _)) hb); have n6_ := ak (blk_below (g := gb434) (o := .cells #[.int .i64 (wrap64 (1 + (Int.tmod (wrap64 ((Int.tmod a0_0 7) + 7)) 7))), .string (strOfNums y435), .string ⟨#[]⟩, .string t441, .string t445, .string t449] 50 (0, 0)) (bx (blk_put (cs := #[.int .i64 (wrap64 (1 + (Int.tmod (wrap64 ((Int.tmod a0_0 7) + 7)) 7))), .string (strOfNums y435), .string ⟨#[]⟩, .string t441, .string t445, .string ⟨#[]⟩]) (bx BK434.out) 5 _ rfl)) hb); have n7_ := ak (below_step bq hb); clear HO437; clear HO440; clear HO444; clear HO448; clear BK432; clear BK433; clear BK434; clear HB; have HO437 := n0_; have HO440 := n1_; have HO444 := n2_; have HO448 := n3_; have BK432 := n4_; have BK433 := n5_; have BK434 := n6_; have HB := n7_; clear n0_ n1_ n2_ n3_ n4_ n5_ n6_ n7_; (try clear hb); (try clear hb2); (try clear hk); (try clear hi); obtain ⟨hcz37_0, hcz37_1, hcz37_2, hcz37_3, hcz37_4, hcz37_5⟩ := cz6 BK433.out; obtain ⟨hfz37_0, hfz37_1, hfz37_2, hfz37_3, hfz37_4, hfz37_5⟩ := fz6 BK433.out; (try clear A7)))
  refine bodyPost_ret (results_cell_row rfl _ _ gb433 50 #[.int .i64 t450, .string t451, .string t452, .string t453, .string t454, .string t455] (0, 0) _ rfl (bx (blk_put (cs := #[.int .i64 t450, .string t451, .string t452, .string t453, .string t454, .string ⟨#[]⟩]) (bx (blk_put (cs := #[.int .i64 t450, .string t451, .string t452, .string t453, .string ⟨#[]⟩, .string ⟨#[]⟩]) (bx (blk_put (cs := #[.int .i64 t450, .string t451, .string t452, .string ⟨#[]⟩, .string ⟨#[]⟩, .string ⟨#[]⟩]) (bx (blk_put (cs := #[.int .i64 t450, .string t451, .string ⟨#[]⟩, .string ⟨#[]⟩, .string ⟨#[]⟩, .string ⟨#[]⟩]) (bx (blk_put (cs := #[.int .i64 t450, .string ⟨#[]⟩, .string ⟨#[]⟩, .string ⟨#[]⟩, .string ⟨#[]⟩, .string ⟨#[]⟩]) (bx (blk_put (cs := #[.int .i64 0, .string ⟨#[]⟩, .string ⟨#[]⟩, .string ⟨#[]⟩, .string ⟨#[]⟩, .string ⟨#[]⟩]) (bx BK433.out) 0 _ rfl)) 1 _ rfl)) 2 _ rfl)) 3 _ rfl)) 4 _ rfl)) 5 _ rfl)) Tryd.underlying50 rfl (by kernel_rfl)) rfl ?_
  exact ⟨by first | rfl | (simp [errW_none, errW_some] <;> rfl) | (simp [*, errW_none, errW_some] <;> rfl), bq⟩
 ·
  rw [if_neg c2] at H
  have c2b0 : ((wrap64 (1 + (Int.tmod (wrap64 ((Int.tmod a0_0 7) + 7)) 7))) == 1) = false := beq_eq_false_iff_ne.mpr c2
  have c2b1 : ((wrap64 (1 + (Int.tmod (wrap64 ((Int.tmod a0_0 7) + 7)) 7))) != 1) = true := bne_iff_ne.mpr c2
  by_cases c38 : (wrap64 (1 + (Int.tmod (wrap64 ((Int.tmod a0_0 7) + 7)) 7))) = 2
  ·
   rw [if_pos c38] at H
   have c38b0 : ((wrap64 (1 + (Int.tmod (wrap64 ((Int.tmod a0_0 7) + 7)) 7))) == 2) = true := beq_iff_eq.mpr c38
   have c38b1 : ((wrap64 (1 + (Int.tmod (wrap64 ((Int.tmod a0_0 7) + 7)) 7))) != 2) = false := bne_eq_false_iff_eq.mpr c38
   (try (have c38b2 : ((wrap64 (1 + (Int.tmod (wrap64 ((Int.tmod a0_0 7) + 7)) 7))) : Int).toNat = 2 := by rw [c38]; rfl))
   clear c38
   replace H := Option.bind_eq_some_iff.mp H
   obtain ⟨t456, A390, H⟩ := H
   have A39 := ak A390
   clear A390
   replace H := Option.bind_eq_some_iff.mp H
   obtain ⟨t459, A400, H⟩ := H
   have A40 := ak A400
   clear A400
   obtain ⟨y460, hy460⟩ : ∃ y_ : List ByteArray, y_ = (([⟨#[98, 114]⟩, ⟨#[99, 110]⟩, ⟨#[117, 115]⟩, ⟨#[100, 100]⟩] : List ByteArray)) := ⟨_, rfl⟩
   replace H : ((isoglossref06_Pick.f y460 a0_2).bind fun t463 => ((isoglossref12_toLangs.f).bind fun t464 => ((isoglossref06_Pick.f t464 a0_3).bind fun t467 => ((isoglossref12_spoilt.f k (wrap64 (1 + (Int.tmod (wrap64 ((Int.tmod a0_0 7) + 7)) 7))) t459 t463 t467 (⟨#[]⟩ : ByteArray) (⟨#[]⟩ : ByteArray) (Int.tmod (wrap64 ((Int.tmod a0_6 9) + 9)) 9)).bind fun bt468 => (some (bt468.1, bt468.2.1, bt468.2.2.1, bt468.2.2.2.1, bt468.2.2.2.2.1, bt468.2.2.2.2.2)))))) = some (r1, r2, r3, r4, r5, r6) := by first | (rw [hy460]; with_reducible exact H) | (have H2_ := (Option.bind_some _ _).symm.trans H; rw [hy460]; with_reducible exact H2_) | (have H2_ := (Option.bind_some _ _).symm.trans H; with_reducible exact H2_) | with_reducible exact H | (rw [hy460]; exact H) | exact H
   have Ny460 := ak hy460
   clear hy460
   replace H := Option.bind_eq_some_iff.mp H
   obtain ⟨t463, A410, H⟩ := H
   have A41 := ak A410
   clear A410
   replace H := Option.bind_eq_some_iff.mp H
   obtain ⟨t464, A420, H⟩ := H
   have A42 := ak A420
   clear A420
   replace H := Option.bind_eq_some_iff.mp H
   obtain ⟨t467, A430, H⟩ := H
   have A43 := ak A430
   clear A430
   replace H := Option.bind_eq_some_iff.mp H
   obtain ⟨⟨t468, t469, t470, t471, t472, t473⟩, A440, H⟩ := H
   replace H : (some (t468, t469, t470, t471, t472, t473)) = some (r1, r2, r3, r4, r5, r6) := H
   have A44 := ak A440
   clear A440
   simp only [Option.some.injEq, Prod.mk.injEq] at H
   obtain ⟨rfl, rfl, rfl, rfl, rfl, rfl⟩ := H
   go_enter Tryd.func34, Tryd.ntmps34
   try go_wp2_with (first | ((with_reducible refine gate_dst (N := 1) rfl ?_); refine box_event ?hg (N := 1) ?hd (cs := #[.int .i64 a0_0, .int .i64 a0_1, .int .i64 a0_2, .int .i64 a0_3, .int .i64 a0_4, .int .i64 a0_5, .int .i64 a0_6]) (t := 52) ?hr ?_; (case hd => rfl); (case hg => rfl); (case hr => first | (go_simp; done) | (go_simp; rfl)); intro gb432 hg w45 hbox hb; have n0_ := ak (below_step bq hb); have n1_ := ak (hbox); have n2_ := ak ((by rw [hg]; exact (below_size bq) : w.heap.size ≤ gb432)); have n3_ := ak ((by rw [hg]; exact (below_size bq) : w.heap.size ≤ gb432)); clear HB; have HB := n0_; have BK432 := n1_; have GW432 := n2_; have GE432 := n3_; clear n0_ n1_ n2_ n3_; clear hb hbox hg) | ((with_reducible refine gate_dst (N := 2) rfl ?_); refine box_event ?hg (N := 2) ?hd (cs := #[.int .i64 0, .string ⟨#[]⟩, .string ⟨#[]⟩, .string ⟨#[]⟩, .string ⟨#[]⟩, .string ⟨#[]⟩]) (t := 50) ?hr ?_; (case hd => rfl); (case hg => rfl); (case hr => first | (go_simp; done) | (go_simp; rfl)); intro gb433 hg w46 hbox hb; have n0_ := ak (blk_below (g := gb432) (bx BK432.out) hb); have n1_ := ak (below_step bq hb); have n2_ := ak (hbox); have n3_ := ak ((by rw [hg]; exact (below_size bq) : w.heap.size ≤ gb433)); have n4_ := ak ((by rw [hg]; exact (below_size bq) : w.heap.size ≤ gb433)); have n5_ := ak ((by rw [hg]; exact Nat.ne_of_lt (blk_lt (g := gb432) (bx BK432.out)) : gb432 ≠ gb433)); have n6_ := ak ((by rw [hg]; exact Nat.ne_of_gt (blk_lt (g := gb432) (bx BK432.out)) : gb433 ≠ gb432)); clear BK432; clear HB; have BK432 := n0_; have HB := n1_; have BK433 := n2_; have GW433 := n3_; have GE433 := n4_; have NB432_433 := n5_; have NB433_432 := n6_; clear n0_ n1_ n2_ n3_ n4_ n5_ n6_; clear hb hbox hg; have hnb47 := NB432_433.out; have hnc47 := NB433_432.out; obtain ⟨hcz48_0, hcz48_1, hcz48_2, hcz48_3, hcz48_4, hcz48_5, hcz48_6⟩ := cz7 BK432.out; obtain ⟨hfz48_0, hfz48_1, hfz48_2, hfz48_3, hfz48_4, hfz48_5, hfz48_6⟩ := fz7 BK432.out) | ((with_reducible refine gate_dst (N := 3) rfl ?_); refine box_event ?hg (N := 3) ?hd (cs := #[.int .i64 0, .string ⟨#[]⟩, .string ⟨#[]⟩, .string ⟨#[]⟩, .string ⟨#[]⟩, .string ⟨#[]⟩]) (t := 50) ?hr ?_; (case hd => rfl); (case hg => rfl); (case hr => first | (go_simp; done) | (go_simp; rfl)); intro gb434 hg w49 hbox hb; have n0_ := ak (blk_below (g := gb432) (bx BK432.out) hb); have n1_ := ak (blk_below (g := gb433) (bx BK433.out) hb); have n2_ := ak (below_step bq hb); have n3_ := ak (hbox); have n4_ := ak ((by rw [hg]; exact (below_size bq) : w.heap.size ≤ gb434)); have n5_ := ak ((by rw [hg]; exact (below_size bq) : w.heap.size ≤ gb434)); have n6_ := ak ((by rw [hg]; exact Nat.ne_of_lt (blk_lt (g := gb432) (bx BK432.out)) : gb432 ≠ gb434)); have n7_ := ak ((by rw [hg]; exact Nat.ne_of_gt (blk_lt (g := gb432) (bx BK432.out)) : gb434 ≠ gb432)); have n8_ := ak ((by rw [hg]; exact Nat.ne_of_lt (blk_lt (g := gb433) (bx BK433.out)) : gb433 ≠ gb434)); have n9_ := ak ((by rw [hg]; exact Nat.ne_of_gt (blk_lt (g := gb433) (bx BK433.out)) : gb434 ≠ gb433)); clear BK432; clear BK433; clear HB; have BK432 := n0_; have BK433 := n1_; have HB := n2_; have BK434 := n3_; have GW434 := n4_; have GE434 := n5_; have NB432_434 := n6_; have NB434_432 := n7_; have NB433_434 := n8_; have NB434_433 := n9_; clear n0_ n1_ n2_ n3_ n4_ n5_ n6_ n7_ n8_ n9_; clear hb hbox hg; have hnb50 := NB434_432.out; have hnc50 := NB432_434.out; have hnb51 := NB434_433.out; have hnc51 := NB433_434.out; obtain ⟨hcz52_0, hcz52_1, hcz52_2, hcz52_3, hcz52_4, hcz52_5⟩ := cz6 BK434.out; obtain ⟨hfz52_0, hfz52_1, hfz52_2, hfz52_3, hfz52_4, hfz52_5⟩ := fz6 BK434.out))
   have n0_ : Aside0 (((((((w49.setCell ⟨gb434, 0, none⟩ (.int .i64 (wrap64 (1 + (Int.tmod (wrap64 ((Int.tmod a0_0 7) + 7)) 7))))).setCell ⟨gb434, 1, none⟩ (.string ⟨#[]⟩)).setCell ⟨gb434, 2, none⟩ (.string ⟨#[]⟩)).setCell ⟨gb434, 3, none⟩ (.string ⟨#[]⟩)).setCell ⟨gb434, 4, none⟩ (.string ⟨#[]⟩)).setCell ⟨gb434, 5, none⟩ (.string ⟨#[]⟩)).heap[gb432]? = some (.cells #[.int .i64 a0_0, .int .i64 a0_1, .int .i64 a0_2, .int .i64 a0_3, .int .i64 a0_4, .int .i64 a0_5, .int .i64 a0_6] 52 (0, 0))) := ⟨(bx (blk_far (bx (blk_far (bx (blk_far (bx (blk_far (bx (blk_far (bx (blk_far (bx BK432.out) NB432_434.out _)) NB432_434.out _)) NB432_434.out _)) NB432_434.out _)) NB432_434.out _)) NB432_434.out _))⟩
   have n1_ : Aside0 (((((((w49.setCell ⟨gb434, 0, none⟩ (.int .i64 (wrap64 (1 + (Int.tmod (wrap64 ((Int.tmod a0_0 7) + 7)) 7))))).setCell ⟨gb434, 1, none⟩ (.string ⟨#[]⟩)).setCell ⟨gb434, 2, none⟩ (.string ⟨#[]⟩)).setCell ⟨gb434, 3, none⟩ (.string ⟨#[]⟩)).setCell ⟨gb434, 4, none⟩ (.string ⟨#[]⟩)).setCell ⟨gb434, 5, none⟩ (.string ⟨#[]⟩)).heap[gb433]? = some (.cells #[.int .i64 0, .string ⟨#[]⟩, .string ⟨#[]⟩, .string ⟨#[]⟩, .string ⟨#[]⟩, .string ⟨#[]⟩] 50 (0, 0))) := ⟨(bx (blk_far (bx (blk_far (bx (blk_far (bx (blk_far (bx (blk_far (bx (blk_far (bx BK433.out) NB433_434.out _)) NB433_434.out _)) NB433_434.out _)) NB433_434.out _)) NB433_434.out _)) NB433_434.out _))⟩
   have n2_ : Aside0 (((((((w49.setCell ⟨gb434, 0, none⟩ (.int .i64 (wrap64 (1 + (Int.tmod (wrap64 ((Int.tmod a0_0 7) + 7)) 7))))).setCell ⟨gb434, 1, none⟩ (.string ⟨#[]⟩)).setCell ⟨gb434, 2, none⟩ (.string ⟨#[]⟩)).setCell ⟨gb434, 3, none⟩ (.string ⟨#[]⟩)).setCell ⟨gb434, 4, none⟩ (.string ⟨#[]⟩)).setCell ⟨gb434, 5, none⟩ (.string ⟨#[]⟩)).heap[gb434]? = some (.cells #[.int .i64 (wrap64 (1 + (Int.tmod (wrap64 ((Int.tmod a0_0 7) + 7)) 7))), .string ⟨#[]⟩, .string ⟨#[]⟩, .string ⟨#[]⟩, .string ⟨#[]⟩, .string ⟨#[]⟩] 50 (0, 0))) := ⟨(bx (blk_put (cs := #[.int .i64 (wrap64 (1 + (Int.tmod (wrap64 ((Int.tmod a0_0 7) + 7)) 7))), .string ⟨#[]⟩, .string ⟨#[]⟩, .string ⟨#[]⟩, .string ⟨#[]⟩, .string ⟨#[]⟩]) (bx (blk_put (cs := #[.int .i64 (wrap64 (1 + (Int.tmod (wrap64 ((Int.tmod a0_0 7) + 7)) 7))), .string ⟨#[]⟩, .string ⟨#[]⟩, .string ⟨#[]⟩, .string ⟨#[]⟩, .string ⟨#[]⟩]) (bx (blk_put (cs := #[.int .i64 (wrap64 (1 + (Int.tmod (wrap64 ((Int.tmod a0_0 7) + 7)) 7))), .string ⟨#[]⟩, .string ⟨#[]⟩, .string ⟨#[]⟩, .string ⟨#[]⟩, .string ⟨#[]⟩]) (bx (blk_put (cs := #[.int .i64 (wrap64 (1 + (Int.tmod (wrap64 ((Int.tmod a0_0 7) + 7)) 7))), .string ⟨#[]⟩, .string ⟨#[]⟩, .string ⟨#[]⟩, .string ⟨#[]⟩, .string ⟨#[]⟩]) (bx (blk_put (cs := #[.int .i64 (wrap64 (1 + (Int.tmod (wrap64 ((Int.tmod a0_0 7) + 7)) 7))), .string ⟨#[]⟩, .string ⟨#[]⟩, .string ⟨#[]⟩, .string ⟨#[]⟩, .string ⟨#[]⟩]) (bx (blk_put (cs := #[.int .i64 0, .string ⟨#[]⟩, .string ⟨#[]⟩, .string ⟨#[]⟩, .string ⟨#[]⟩, .string ⟨#[]⟩]) (bx BK434.out) 0 _ rfl)) 1 _ rfl)) 2 _ rfl)) 3 _ rfl)) 4 _ rfl)) 5 _ rfl))⟩
   have n3_ : Aside0 (Below w.heap.size w ((((((w49.setCell ⟨gb434, 0, none⟩ (.int .i64 (wrap64 (1 + (Int.tmod (wrap64 ((Int.tmod a0_0 7) + 7)) 7))))).setCell ⟨gb434, 1, none⟩ (.string ⟨#[]⟩)).setCell ⟨gb434, 2, none⟩ (.string ⟨#[]⟩)).setCell ⟨gb434, 3, none⟩ (.string ⟨#[]⟩)).setCell ⟨gb434, 4, none⟩ (.string ⟨#[]⟩)).setCell ⟨gb434, 5, none⟩ (.string ⟨#[]⟩))) := ⟨bq⟩
   (try clear BK432)
   (try clear BK433)
   (try clear BK434)
   (try clear HB)
   generalize ((((((w49.setCell ⟨gb434, 0, none⟩ (.int .i64 (wrap64 (1 + (Int.tmod (wrap64 ((Int.tmod a0_0 7) + 7)) 7))))).setCell ⟨gb434, 1, none⟩ (.string ⟨#[]⟩)).setCell ⟨gb434, 2, none⟩ (.string ⟨#[]⟩)).setCell ⟨gb434, 3, none⟩ (.string ⟨#[]⟩)).setCell ⟨gb434, 4, none⟩ (.string ⟨#[]⟩)).setCell ⟨gb434, 5, none⟩ (.string ⟨#[]⟩)) = w53 at n0_ n1_ n2_ n3_ ⊢
   have BK432 := n0_
   have BK433 := n1_
   have BK434 := n2_
   have HB := n3_
   clear n0_ n1_ n2_ n3_
   have n0_ := ak (blk_drew BK432.out)
   have n1_ := ak (blk_drew BK433.out)
   have n2_ := ak (blk_drew BK434.out)
   have n3_ := ak (below_drew1 HB.out)
   clear BK432
   clear BK433
   clear BK434
   clear HB
   have BK432 := n0_
   have BK433 := n1_
   have BK434 := n2_
   have HB := n3_
   clear n0_ n1_ n2_ n3_
   refine start_ (n := 6) (S := fun w' => w'.cell? ⟨gb432, 0, none⟩ = some (.int .i64 a0_0) ∧ w'.cell? ⟨gb432, 1, none⟩ = some (.int .i64 a0_1) ∧ w'.cell? ⟨gb432, 2, none⟩ = some (.int .i64 a0_2) ∧ w'.cell? ⟨gb432, 3, none⟩ = some (.int .i64 a0_3) ∧ w'.cell? ⟨gb432, 4, none⟩ = some (.int .i64 a0_4) ∧ w'.cell? ⟨gb432, 5, none⟩ = some (.int .i64 a0_5) ∧ w'.cell? ⟨gb432, 6, none⟩ = some (.int .i64 a0_6)) (ds := []) #[false, false, false, false, false, false] (by kernel_rfl) rfl rfl ⟨(blk_cell BK432.out 0).trans rfl, (blk_cell BK432.out 1).trans rfl, (blk_cell BK432.out 2).trans rfl, (blk_cell BK432.out 3).trans rfl, (blk_cell BK432.out 4).trans rfl, (blk_cell BK432.out 5).trans rfl, (blk_cell BK432.out 6).trans rfl⟩ (fun hHeld => ?_)
   generalize w53.drew = w54 at BK432 BK433 BK434 HB hHeld ⊢
   refine pure_ (i := 1) (N := some 65) (v := ?_) (a' := ?_) (M 6 2) rfl rfl (by kernel_rfl) (fun _ _ _ h => h) (Or.inl ⟨by rfl, ?_⟩) ?_ ?_
   rotate_left
   ·
    intro w'
    go_simp
    with_reducible rfl
   rotate_left
   ·
    simp only [Act.put, pA, pB, pC, i64_w, i32_w]
    rfl
   refine take_ (i := 2) (N := some 66) (v := ?_) (a' := ?_) (M 6 6) rfl rfl (by kernel_rfl) (fun _ _ _ h => h) (Or.inl ⟨by rfl, ?_⟩) hHeld ?_ ?_
   rotate_left
   ·
    rintro w' ⟨s0, s1, s2, s3, s4, s5, s6⟩
    go_simp
    with_reducible rfl
   rotate_left
   ·
    simp only [Act.put, pA, pB, pC, i64_w, i32_w]
    rfl
   refine one_ (i := 0) (N := some 64) (M 6 7) rfl rfl (by kernel_rfl) (by decide) (fun K hK => ?_)
   refine goes_ Tryd.func58 (by kernel_rfl) rfl #[] (by rfl) rfl rfl mq ?_
   with_reducible refine (isoglossref12_langs.calls  t456 _ A39.out).mono ?_
   rintro e w55 ⟨v457, rfl, ho0, hb⟩
   refine ⟨_, rfl, ?_⟩
   have n0_ := ak (Kd.R_lower ho0 (below_size bq))
   have n1_ := ak (blk_below (g := gb432) (bx BK432.out) hb)
   have n2_ := ak (blk_below (g := gb433) (bx BK433.out) hb)
   have n3_ := ak (blk_below (g := gb434) (bx BK434.out) hb)
   have n4_ := ak (below_step bq hb)
   clear BK432
   clear BK433
   clear BK434
   clear HB
   have HO458 := n0_
   have BK432 := n1_
   have BK433 := n2_
   have BK434 := n3_
   have HB := n4_
   clear n0_ n1_ n2_ n3_ n4_
   (try clear hb)
   (try clear hb2)
   (try clear hk)
   (try clear hi)
   (try clear ho0)
   obtain ⟨Ao56, co56, eo56⟩ := Kd.R_slice HO458.out
   (first | subst eo56 | (injection eo56 with f1_ f2_ f3_; have f4_ := f1_.symm; have f5_ := f3_.symm; clear f1_ f2_ f3_; subst f4_; subst f5_))
   refine hK.out _ _ ⟨(blk_cell BK432.out 0).trans rfl, (blk_cell BK432.out 1).trans rfl, (blk_cell BK432.out 2).trans rfl, (blk_cell BK432.out 3).trans rfl, (blk_cell BK432.out 4).trans rfl, (blk_cell BK432.out 5).trans rfl, (blk_cell BK432.out 6).trans rfl⟩ (fun hHeld => ?_)
   clear hK K
   refine norm_ (a' := ?_) ?_ ?_
   rotate_left
   ·
    show Act.put _ (some 64) _ = _
    simp only [Act.put, pA, pB, pC, i64_w, i32_w]
    rfl
   refine one_ (i := 3) (N := some 67) (M 6 15) rfl rfl (by kernel_rfl) (by decide) (fun K hK => ?_)
   refine goes_ Tryd.func56 (by kernel_rfl) rfl #[.slice Ao56 t456.length co56, .int .i64 a0_1] (by rfl) rfl rfl mq ?_
   with_reducible refine (isoglossref06_Pick.calls _ _ t456 a0_1 t459 _ ?side1 ?side2 A40.out).mono ?_
   (case side1 => repeat (first | exact (Kd.R_reads' HO458.out).2.2 | (with_reducible refine Kd.C_alloc ?_ _) | (with_reducible refine Kd.C_drewN ?_ _) | (with_reducible refine Kd.C_drew ?_)))
   (case side2 => exact (Kd.R_reads' HO458.out).2.1)
   rintro e w' ⟨rfl, ⟨nd, rfl⟩⟩
   refine ⟨_, rfl, ?_⟩
   refine hK.out _ _ ⟨(blk_cell BK432.out 0).trans rfl, (blk_cell BK432.out 1).trans rfl, (blk_cell BK432.out 2).trans rfl, (blk_cell BK432.out 3).trans rfl, (blk_cell BK432.out 4).trans rfl, (blk_cell BK432.out 5).trans rfl, (blk_cell BK432.out 6).trans rfl⟩ (fun hHeld => ?_)
   clear hK K
   refine norm_ (a' := ?_) ?_ ?_
   rotate_left
   ·
    show Act.put _ (some 67) _ = _
    simp only [Act.put, pA, pB, pC, i64_w, i32_w]
    rfl
   refine pure_ (i := 4) (N := some 68) (v := ?_) (a' := ?_) (M 6 31) rfl rfl (by kernel_rfl) (fun _ _ _ h => h) (Or.inl ⟨by rfl, ?_⟩) ?_ ?_
   rotate_left
   ·
    intro w'
    go_simp
    with_reducible rfl
   rotate_left
   ·
    simp only [Act.put, pA, pB, pC, i64_w, i32_w]
    rfl
   refine one_ (i := 5) (N := none) (M 6 63) rfl rfl (by kernel_rfl) (by decide) (fun K hK => ?_)
   have hs57 : w55.cell? ⟨gb434, 1, none⟩ = some (.string ⟨#[]⟩) := (blk_cell BK434.out 1).trans rfl
   have hfs57 := blk_frozen BK434.out 1
   have hns57_0 := NB432_434.out
   have hns57_1 := NB433_434.out
   have hms57_0 := NB434_432.out
   have hms57_1 := NB434_433.out
   refine skip_ (w1 := ?_) (by rfl) rfl ?_ ?_
   rotate_left
   ·
    go_simp
    rfl
   refine hK.out _ _ ⟨((cell_far (p := ⟨gb434, _, none⟩) NB432_434.out _).trans (hHeld.1)), ((cell_far (p := ⟨gb434, _, none⟩) NB432_434.out _).trans (hHeld.2.1)), ((cell_far (p := ⟨gb434, _, none⟩) NB432_434.out _).trans (hHeld.2.2.1)), ((cell_far (p := ⟨gb434, _, none⟩) NB432_434.out _).trans (hHeld.2.2.2.1)), ((cell_far (p := ⟨gb434, _, none⟩) NB432_434.out _).trans (hHeld.2.2.2.2.1)), ((cell_far (p := ⟨gb434, _, none⟩) NB432_434.out _).trans (hHeld.2.2.2.2.2.1)), ((cell_far (p := ⟨gb434, _, none⟩) NB432_434.out _).trans (hHeld.2.2.2.2.2.2))⟩ (fun hHeld => ?_)
   clear hK K
   refine done_ (by kernel_rfl) ?_
   try go_wp2_with (first | ((with_reducible refine gate_dst (N := 69) rfl ?_); refine Kd.R_lit Kd.string _ 9 ?hg (N := 69) ?hd (xs := ([⟨#[98, 114]⟩, ⟨#[99, 110]⟩, ⟨#[117, 115]⟩, ⟨#[100, 100]⟩] : List ByteArray)) (inner := [.string ⟨#[98, 114]⟩, .string ⟨#[99, 110]⟩, .string ⟨#[117, 115]⟩, .string ⟨#[100, 100]⟩]) (ok := fun _ => True) (okp := fun _ => True) ?hr ?hp (fun _ hk => hk) trivial (Below.refl _ _) (Nat.le_refl _) (by simp) ?_; (case hd => rfl); (case hg => rfl); (case hr => first | (go_simp; done) | (go_simp; rfl)); (case hp => exact (Reps.one (show Kd.M Kd.string _ _ _ (⟨#[98, 114]⟩ : ByteArray) [.string ⟨#[98, 114]⟩] from rfl) (Reps.one (show Kd.M Kd.string _ _ _ (⟨#[99, 110]⟩ : ByteArray) [.string ⟨#[99, 110]⟩] from rfl) (Reps.one (show Kd.M Kd.string _ _ _ (⟨#[117, 115]⟩ : ByteArray) [.string ⟨#[117, 115]⟩] from rfl) (Reps.one (show Kd.M Kd.string _ _ _ (⟨#[100, 100]⟩ : ByteArray) [.string ⟨#[100, 100]⟩] from rfl) (Reps.none _ _)))))); intro v461 w58 ho59 hb hg_ hnew_; clear hg_ hnew_; (first | rw [← Ny460.out] at ho59 | (simp only [Int.reduceToNat] at ho59; rw [← Ny460.out] at ho59)); have n0_ := ak (Kd.R_elder' (rx ((Kd.R_mono (Kd.R_far (p := ⟨gb434, 1, none⟩) (Kd.R_types HO458.out BK434.out (by decide)) (fun _ hk => hk.2) (.string t459)) (fun _ h_ => h_.1)))) (Kd.R_base ho59) hb); have n1_ := ak (Kd.R_lower (Kd.R_new' ho59 (Kd.R_lt (rx ((Kd.R_mono (Kd.R_far (p := ⟨gb434, 1, none⟩) (Kd.R_types HO458.out BK434.out (by decide)) (fun _ hk => hk.2) (.string t459)) (fun _ h_ => h_.1)))))) (below_size bq)); have n2_ := ak (blk_below (g := gb432) (o := .cells #[.int .i64 a0_0, .int .i64 a0_1, .int .i64 a0_2, .int .i64 a0_3, .int .i64 a0_4, .int .i64 a0_5, .int .i64 a0_6] 52 (0, 0)) (bx (blk_far (bx BK432.out) NB432_434.out _)) hb); have n3_ := ak (blk_below (g := gb433) (o := .cells #[.int .i64 0, .string ⟨#[]⟩, .string ⟨#[]⟩, .string ⟨#[]⟩, .string ⟨#[]⟩, .string ⟨#[]⟩] 50 (0, 0)) (bx (blk_far (bx BK433.out) NB433_434.out _)) hb); have n4_ := ak (blk_below (g := gb434) (o := .cells #[.int .i64 (wrap64 (1 + (Int.tmod (wrap64 ((Int.tmod a0_0 7) + 7)) 7))), .string t459, .string ⟨#[]⟩, .string ⟨#[]⟩, .string ⟨#[]⟩, .string ⟨#[]⟩] 50 (0, 0)) (bx (blk_put (cs := #[.int .i64 (wrap64 (1 + (Int.tmod (wrap64 ((Int.tmod a0_0 7) + 7)) 7))), .string ⟨#[]⟩, .string ⟨#[]⟩, .string ⟨#[]⟩, .string ⟨#[]⟩, .string ⟨#[]⟩]) (bx BK434.out) 1 _ rfl)) hb); have n5_ := ak (below_step bq hb); clear HO458; clear BK432; clear BK433; clear BK434; clear HB; have HO458 := n0_; have HO462 := n1_; have BK432 := n2_; have BK433 := n3_; have BK434 := n4_; have HB := n5_; clear n0_ n1_ n2_ n3_ n4_ n5_; clear hb ho59; obtain ⟨hcz60_0, hcz60_1, hcz60_2, hcz60_3, hcz60_4, hcz60_5, hcz60_6⟩ := cz7 BK432.out; obtain ⟨hfz60_0, hfz60_1, hfz60_2, hfz60_3, hfz60_4, hfz60_5, hfz60_6⟩ := fz7 BK432.out; obtain ⟨Ao61, co61, eo61⟩ := Kd.R_slice HO462.out; subst eo61) | ((with_reducible refine gate_callee (f := 56) rfl ?_); refine goesL_ (some 72) rfl rfl Tryd.func56 (by kernel_rfl) rfl #[.slice Ao61 y460.length co61, .int .i64 a0_2] rfl mq ?_; (with_reducible refine (isoglossref06_Pick.calls _ _ y460 a0_2 t463 _ ?side1 ?side2 A41.out).mono ?_); (case side1 => repeat (first | exact (Kd.R_reads' HO462.out).2.2 | (with_reducible refine Kd.C_alloc ?_ _) | (with_reducible refine Kd.C_drewN ?_ _) | (with_reducible refine Kd.C_drew ?_))); (case side2 => exact (Kd.R_reads' HO462.out).2.1); rintro e w' ⟨rfl, ⟨nd, rfl⟩⟩; refine ⟨_, rfl, ?_⟩; (try (rw [drewN_self w58]; generalize hq_ : World.drewN w58 _ = w58; have n0_ : Aside0 (Kd.R Kd.string 9 w58 w.heap.size (fun k_ => some k_ ≠ (.slice Ao61 y460.length co61 : Value).ownBlock) (.slice Ao56 t456.length co56) t456) := ⟨by rw [← hq_]; exact (rx (Kd.R_mono HO458.out (fun _ hk => hk.2)))⟩; have n1_ : Aside0 (Kd.R Kd.string 9 w58 w.heap.size (fun k_ => some k_ ≠ (.slice Ao56 t456.length co56 : Value).ownBlock) (.slice Ao61 y460.length co61) y460) := ⟨by rw [← hq_]; exact (rx (Kd.R_mono HO462.out (fun _ hk => hk.2)))⟩; have n2_ : Aside0 (w58.heap[gb432]? = some (.cells #[.int .i64 a0_0, .int .i64 a0_1, .int .i64 a0_2, .int .i64 a0_3, .int .i64 a0_4, .int .i64 a0_5, .int .i64 a0_6] 52 (0, 0))) := ⟨by rw [← hq_]; exact (bx BK432.out)⟩; have n3_ : Aside0 (w58.heap[gb433]? = some (.cells #[.int .i64 0, .string ⟨#[]⟩, .string ⟨#[]⟩, .string ⟨#[]⟩, .string ⟨#[]⟩, .string ⟨#[]⟩] 50 (0, 0))) := ⟨by rw [← hq_]; exact (bx BK433.out)⟩; have n4_ : Aside0 (w58.heap[gb434]? = some (.cells #[.int .i64 (wrap64 (1 + (Int.tmod (wrap64 ((Int.tmod a0_0 7) + 7)) 7))), .string t459, .string ⟨#[]⟩, .string ⟨#[]⟩, .string ⟨#[]⟩, .string ⟨#[]⟩] 50 (0, 0))) := ⟨by rw [← hq_]; exact (bx BK434.out)⟩; have n5_ : Aside0 (Below w.heap.size w w58) := ⟨by rw [← hq_]; exact bq⟩; clear HO458 HO462 BK432 BK433 BK434 HB hq_; have HO458 := n0_; have HO462 := n1_; have BK432 := n2_; have BK433 := n3_; have BK434 := n4_; have HB := n5_; clear n0_ n1_ n2_ n3_ n4_ n5_; obtain ⟨hczq_0, hczq_1, hczq_2, hczq_3, hczq_4, hczq_5, hczq_6⟩ := cz7 BK432.out)); obtain ⟨hcz62_0, hcz62_1, hcz62_2, hcz62_3, hcz62_4, hcz62_5⟩ := cz6 BK434.out; obtain ⟨hfz62_0, hfz62_1, hfz62_2, hfz62_3, hfz62_4, hfz62_5⟩ := fz6 BK434.out; (try clear A41)))
   have n0_ : Aside0 (Kd.R Kd.string 9 (w58.setCell ⟨gb434, 2, none⟩ (.string t463)) w.heap.size (fun k_ => some k_ ≠ (.slice Ao61 y460.length co61 : Value).ownBlock) (.slice Ao56 t456.length co56) t456) := ⟨(rx (Kd.R_mono (Kd.R_far (p := ⟨gb434, 2, none⟩) (Kd.R_types HO458.out BK434.out (by decide)) (fun _ hk => hk.2) (.string t463)) (by intro _ hk; first | exact hk.1.2 | exact hk.1)))⟩
   have n1_ : Aside0 (Kd.R Kd.string 9 (w58.setCell ⟨gb434, 2, none⟩ (.string t463)) w.heap.size (fun k_ => some k_ ≠ (.slice Ao56 t456.length co56 : Value).ownBlock) (.slice Ao61 y460.length co61) y460) := ⟨(rx (Kd.R_mono (Kd.R_far (p := ⟨gb434, 2, none⟩) (Kd.R_types HO462.out BK434.out (by decide)) (fun _ hk => hk.2) (.string t463)) (by intro _ hk; first | exact hk.1.2 | exact hk.1)))⟩
   have n2_ : Aside0 ((w58.setCell ⟨gb434, 2, none⟩ (.string t463)).heap[gb432]? = some (.cells #[.int .i64 a0_0, .int .i64 a0_1, .int .i64 a0_2, .int .i64 a0_3, .int .i64 a0_4, .int .i64 a0_5, .int .i64 a0_6] 52 (0, 0))) := ⟨(bx (blk_far (bx BK432.out) NB432_434.out _))⟩
   have n3_ : Aside0 ((w58.setCell ⟨gb434, 2, none⟩ (.string t463)).heap[gb433]? = some (.cells #[.int .i64 0, .string ⟨#[]⟩, .string ⟨#[]⟩, .string ⟨#[]⟩, .string ⟨#[]⟩, .string ⟨#[]⟩] 50 (0, 0))) := ⟨(bx (blk_far (bx BK433.out) NB433_434.out _))⟩
   have n4_ : Aside0 ((w58.setCell ⟨gb434, 2, none⟩ (.string t463)).heap[gb434]? = some (.cells #[.int .i64 (wrap64 (1 + (Int.tmod (wrap64 ((Int.tmod a0_0 7) + 7)) 7))), .string t459, .string t463, .string ⟨#[]⟩, .string ⟨#[]⟩, .string ⟨#[]⟩] 50 (0, 0))) := ⟨(bx (blk_put (cs := #[.int .i64 (wrap64 (1 + (Int.tmod (wrap64 ((Int.tmod a0_0 7) + 7)) 7))), .string t459, .string ⟨#[]⟩, .string ⟨#[]⟩, .string ⟨#[]⟩, .string ⟨#[]⟩]) (bx BK434.out) 2 _ rfl))⟩
   have n5_ : Aside0 (Below w.heap.size w (w58.setCell ⟨gb434, 2, none⟩ (.string t463))) := ⟨bq⟩
   (try clear HO458)
   (try clear HO462)
   (try clear BK432)
   (try clear BK433)
   (try clear BK434)
   (try clear HB)
   (try rw [setN])
   generalize (w58.setCell ⟨gb434, 2, none⟩ (.string t463)) = w63 at n0_ n1_ n2_ n3_ n4_ n5_ ⊢
   have HO458 := n0_
   have HO462 := n1_
   have BK432 := n2_
   have BK433 := n3_
   have BK434 := n4_
   have HB := n5_
   clear n0_ n1_ n2_ n3_ n4_ n5_
   have n0_ := ak (Kd.R_drew HO458.out)
   have n1_ := ak (Kd.R_drew HO462.out)
   have n2_ := ak (blk_drew BK432.out)
   have n3_ := ak (blk_drew BK433.out)
   have n4_ := ak (blk_drew BK434.out)
   have n5_ := ak (below_drew1 HB.out)
   clear HO458
   clear HO462
   clear BK432
   clear BK433
   clear BK434
   clear HB
   have HO458 := n0_
   have HO462 := n1_
   have BK432 := n2_
   have BK433 := n3_
   have BK434 := n4_
   have HB := n5_
   clear n0_ n1_ n2_ n3_ n4_ n5_
   refine start_ (n := 6) (S := fun w' => w'.cell? ⟨gb432, 0, none⟩ = some (.int .i64 a0_0) ∧ w'.cell? ⟨gb432, 1, none⟩ = some (.int .i64 a0_1) ∧ w'.cell? ⟨gb432, 2, none⟩ = some (.int .i64 a0_2) ∧ w'.cell? ⟨gb432, 3, none⟩ = some (.int .i64 a0_3) ∧ w'.cell? ⟨gb432, 4, none⟩ = some (.int .i64 a0_4) ∧ w'.cell? ⟨gb432, 5, none⟩ = some (.int .i64 a0_5) ∧ w'.cell? ⟨gb432, 6, none⟩ = some (.int .i64 a0_6)) (ds := []) #[false, false, false, false, false, false] (by kernel_rfl) rfl rfl ⟨(blk_cell BK432.out 0).trans rfl, (blk_cell BK432.out 1).trans rfl, (blk_cell BK432.out 2).trans rfl, (blk_cell BK432.out 3).trans rfl, (blk_cell BK432.out 4).trans rfl, (blk_cell BK432.out 5).trans rfl, (blk_cell BK432.out 6).trans rfl⟩ (fun hHeld => ?_)
   generalize w63.drew = w64 at HO458 HO462 BK432 BK433 BK434 HB hHeld ⊢
   refine pure_ (i := 1) (N := some 75) (v := ?_) (a' := ?_) (M 6 2) rfl rfl (by kernel_rfl) (fun _ _ _ h => h) (Or.inl ⟨by rfl, ?_⟩) ?_ ?_
   rotate_left
   ·
    intro w'
    go_simp
    with_reducible rfl
   rotate_left
   ·
    simp only [Act.put, pA, pB, pC, i64_w, i32_w]
    rfl
   refine take_ (i := 2) (N := some 76) (v := ?_) (a' := ?_) (M 6 6) rfl rfl (by kernel_rfl) (fun _ _ _ h => h) (Or.inl ⟨by rfl, ?_⟩) hHeld ?_ ?_
   rotate_left
   ·
    rintro w' ⟨s0, s1, s2, s3, s4, s5, s6⟩
    go_simp
    with_reducible rfl
   rotate_left
   ·
    simp only [Act.put, pA, pB, pC, i64_w, i32_w]
    rfl
   refine one_ (i := 0) (N := some 74) (M 6 7) rfl rfl (by kernel_rfl) (by decide) (fun K hK => ?_)
   refine goes_ Tryd.func57 (by kernel_rfl) rfl #[] (by rfl) rfl rfl mq ?_
   with_reducible refine (isoglossref12_toLangs.calls  t464 _ A42.out).mono ?_
   rintro e w65 ⟨v465, rfl, ho0, hb⟩
   refine ⟨_, rfl, ?_⟩
   have n0_ := ak (Kd.R_elder' (rx HO458.out) (Kd.R_base ho0) hb)
   have n1_ := ak (Kd.R_elder' (rx HO462.out) (Kd.R_base ho0) hb)
   have n2_ := ak (Kd.R_lower (Kd.R_new' (Kd.R_new' ho0 (Kd.R_lt (rx HO458.out))) (Kd.R_lt (rx HO462.out))) (below_size bq))
   have n3_ := ak (blk_below (g := gb432) (bx BK432.out) hb)
   have n4_ := ak (blk_below (g := gb433) (bx BK433.out) hb)
   have n5_ := ak (blk_below (g := gb434) (bx BK434.out) hb)
   have n6_ := ak (below_step bq hb)
   clear HO458
   clear HO462
   clear BK432
   clear BK433
   clear BK434
   clear HB
   have HO458 := n0_
   have HO462 := n1_
   have HO466 := n2_
   have BK432 := n3_
   have BK433 := n4_
   have BK434 := n5_
   have HB := n6_
   clear n0_ n1_ n2_ n3_ n4_ n5_ n6_
   (try clear hb)
   (try clear hb2)
   (try clear hk)
   (try clear hi)
   (try clear ho0)
   obtain ⟨Ao66, co66, eo66⟩ := Kd.R_slice HO466.out
   (first | subst eo66 | (injection eo66 with f1_ f2_ f3_; have f4_ := f1_.symm; have f5_ := f3_.symm; clear f1_ f2_ f3_; subst f4_; subst f5_))
   refine hK.out _ _ ⟨(blk_cell BK432.out 0).trans rfl, (blk_cell BK432.out 1).trans rfl, (blk_cell BK432.out 2).trans rfl, (blk_cell BK432.out 3).trans rfl, (blk_cell BK432.out 4).trans rfl, (blk_cell BK432.out 5).trans rfl, (blk_cell BK432.out 6).trans rfl⟩ (fun hHeld => ?_)
   clear hK K
   refine norm_ (a' := ?_) ?_ ?_
   rotate_left
   ·
    show Act.put _ (some 74) _ = _
    simp only [Act.put, pA, pB, pC, i64_w, i32_w]
    rfl
   refine one_ (i := 3) (N := some 77) (M 6 15) rfl rfl (by kernel_rfl) (by decide) (fun K hK => ?_)
   refine goes_ Tryd.func56 (by kernel_rfl) rfl #[.slice Ao66 t464.length co66, .int .i64 a0_3] (by rfl) rfl rfl mq ?_
   with_reducible refine (isoglossref06_Pick.calls _ _ t464 a0_3 t467 _ ?side1 ?side2 A43.out).mono ?_
   (case side1 => repeat (first | exact (Kd.R_reads' HO466.out).2.2 | (with_reducible refine Kd.C_alloc ?_ _) | (with_reducible refine Kd.C_drewN ?_ _) | (with_reducible refine Kd.C_drew ?_)))
   (case side2 => exact (Kd.R_reads' HO466.out).2.1)
   rintro e w' ⟨rfl, ⟨nd, rfl⟩⟩
   refine ⟨_, rfl, ?_⟩
   refine hK.out _ _ ⟨(blk_cell BK432.out 0).trans rfl, (blk_cell BK432.out 1).trans rfl, (blk_cell BK432.out 2).trans rfl, (blk_cell BK432.out 3).trans rfl, (blk_cell BK432.out 4).trans rfl, (blk_cell BK432.out 5).trans rfl, (blk_cell BK432.out 6).trans rfl⟩ (fun hHeld => ?_)
   clear hK K
   refine norm_ (a' := ?_) ?_ ?_
   rotate_left
   ·
    show Act.put _ (some 77) _ = _
    simp only [Act.put, pA, pB, pC, i64_w, i32_w]
    rfl
   refine pure_ (i := 4) (N := some 78) (v := ?_) (a' := ?_) (M 6 31) rfl rfl (by kernel_rfl) (fun _ _ _ h => h) (Or.inl ⟨by rfl, ?_⟩) ?_ ?_
   rotate_left
   ·
    intro w'
    go_simp
    with_reducible rfl
   rotate_left
   ·
    simp only [Act.put, pA, pB, pC, i64_w, i32_w]
    rfl
   refine one_ (i := 5) (N := none) (M 6 63) rfl rfl (by kernel_rfl) (by decide) (fun K hK => ?_)
   have hs67 : w65.cell? ⟨gb434, 3, none⟩ = some (.string ⟨#[]⟩) := (blk_cell BK434.out 3).trans rfl
   have hfs67 := blk_frozen BK434.out 3
   have hns67_0 := NB432_434.out
   have hns67_1 := NB433_434.out
   have hms67_0 := NB434_432.out
   have hms67_1 := NB434_433.out
   refine skip_ (w1 := ?_) (by rfl) rfl ?_ ?_
   rotate_left
   ·
    go_simp
    rfl
   refine hK.out _ _ ⟨((cell_far (p := ⟨gb434, _, none⟩) NB432_434.out _).trans (hHeld.1)), ((cell_far (p := ⟨gb434, _, none⟩) NB432_434.out _).trans (hHeld.2.1)), ((cell_far (p := ⟨gb434, _, none⟩) NB432_434.out _).trans (hHeld.2.2.1)), ((cell_far (p := ⟨gb434, _, none⟩) NB432_434.out _).trans (hHeld.2.2.2.1)), ((cell_far (p := ⟨gb434, _, none⟩) NB432_434.out _).trans (hHeld.2.2.2.2.1)), ((cell_far (p := ⟨gb434, _, none⟩) NB432_434.out _).trans (hHeld.2.2.2.2.2.1)), ((cell_far (p := ⟨gb434, _, none⟩) NB432_434.out _).trans (hHeld.2.2.2.2.2.2))⟩ (fun hHeld => ?_)
   clear hK K
   refine done_ (by kernel_rfl) ?_
   obtain ⟨hcz68_0, hcz68_1, hcz68_2, hcz68_3, hcz68_4, hcz68_5⟩ := cz6 BK434.out
   obtain ⟨hfz68_0, hfz68_1, hfz68_2, hfz68_3, hfz68_4, hfz68_5⟩ := fz6 BK434.out
   obtain ⟨hcz69_0, hcz69_1, hcz69_2, hcz69_3, hcz69_4, hcz69_5, hcz69_6⟩ := cz7 BK432.out
   obtain ⟨hfz69_0, hfz69_1, hfz69_2, hfz69_3, hfz69_4, hfz69_5, hfz69_6⟩ := fz7 BK432.out
   try go_wp2_with (first | ((with_reducible refine gate_callee (f := 63) rfl ?_); refine goesL_ (some 143) rfl rfl Tryd.func63 (by kernel_rfl) rfl #[.agg #[.int .i64 (wrap64 (1 + (Int.tmod (wrap64 ((Int.tmod a0_0 7) + 7)) 7))), .string t459, .string t463, .string t467, .string ⟨#[]⟩, .string ⟨#[]⟩], .int .i64 (Int.tmod (wrap64 ((Int.tmod a0_6 9) + 9)) 9)] rfl mq ?_; (with_reducible refine (isoglossref12_spoilt.calls k (wrap64 (1 + (Int.tmod (wrap64 ((Int.tmod a0_0 7) + 7)) 7))) t459 t463 t467 (⟨#[]⟩ : ByteArray) (⟨#[]⟩ : ByteArray) (Int.tmod (wrap64 ((Int.tmod a0_6 9) + 9)) 9) t468 t469 t470 t471 t472 t473 _ A44.out).mono ?_); rintro e w70 ⟨rfl, hb⟩; refine ⟨_, rfl, ?_⟩; have n0_ := ak (Kd.R_below (rx ((Kd.R_mono (Kd.R_far (p := ⟨gb434, 3, none⟩) (Kd.R_types HO458.out BK434.out (by decide)) (fun _ hk => hk.2) (.string t467)) (fun _ h_ => h_.1)))) hb); have n1_ := ak (Kd.R_below (rx ((Kd.R_mono (Kd.R_far (p := ⟨gb434, 3, none⟩) (Kd.R_types HO462.out BK434.out (by decide)) (fun _ hk => hk.2) (.string t467)) (fun _ h_ => h_.1)))) hb); have n2_ := ak (Kd.R_below (rx ((Kd.R_mono (Kd.R_far (p := ⟨gb434, 3, none⟩) (Kd.R_types HO466.out BK434.out (by decide)) (fun _ hk => hk.2) (.string t467)) (fun _ h_ => h_.1)))) hb); have n3_ := ak (blk_below (g := gb432) (o := .cells #[.int .i64 a0_0, .int .i64 a0_1, .int .i64 a0_2, .int .i64 a0_3, .int .i64 a0_4, .int .i64 a0_5, .int .i64 a0_6] 52 (0, 0)) (bx (blk_far (bx BK432.out) NB432_434.out _)) hb); have n4_ := ak (blk_below (g := gb433) (o := .cells #[.int .i64 0, .string ⟨#[]⟩, .string ⟨#[]⟩, .string ⟨#[]⟩, .string ⟨#[]⟩, .string ⟨#[]⟩] 50 (0, 0)) (bx (blk_far (bx BK433.out) NB433_434.out _)) hb); have n5_ := ak (blk_below (g := gb434) (o := .cells #[.int .i64 (wrap64 (1 + (Int.tmod (wrap64 ((Int.tmod a0_0 7) + 7)) 7))), .string t459, .string t463, .string t467, .string ⟨#[]⟩, .string ⟨#[]⟩] 50 (0, 0)) (bx (blk_put (cs := #[.int .i64 (wrap64 (1 + (Int.tmod (wrap64 ((Int.tmod a0_0 7) + 7)) 7))), .string t459, .string t463, .string ⟨#[]⟩, .string ⟨#[]⟩, .string ⟨#[]⟩]) (bx BK434.out) 3 _ rfl)) hb); have n6_ := ak (below_step bq hb); clear HO458; clear HO462; clear HO466; clear BK432; clear BK433; clear BK434; clear HB; have HO458 := n0_; have HO462 := n1_; have HO466 := n2_; have BK432 := n3_; have BK433 := n4_; have BK434 := n5_; have HB := n6_; clear n0_ n1_ n2_ n3_ n4_ n5_ n6_; (try clear hb); (try clear hb2); (try clear hk); (try clear hi); obtain ⟨hcz71_0, hcz71_1, hcz71_2, hcz71_3, hcz71_4, hcz71_5⟩ := cz6 BK433.out; obtain ⟨hfz71_0, hfz71_1, hfz71_2, hfz71_3, hfz71_4, hfz71_5⟩ := fz6 BK433.out; (try clear A44)))
   refine bodyPost_ret (results_cell_row rfl _ _ gb433 50 #[.int .i64 t468, .string t469, .string t470, .string t471, .string t472, .string t473] (0, 0) _ rfl (bx (blk_put (cs := #[.int .i64 t468, .string t469, .string t470, .string t471, .string t472, .string ⟨#[]⟩]) (bx (blk_put (cs := #[.int .i64 t468, .string t469, .string t470, .string t471, .string ⟨#[]⟩, .string ⟨#[]⟩]) (bx (blk_put (cs := #[.int .i64 t468, .string t469, .string t470, .string ⟨#[]⟩, .string ⟨#[]⟩, .string ⟨#[]⟩]) (bx (blk_put (cs := #[.int .i64 t468, .string t469, .string ⟨#[]⟩, .string ⟨#[]⟩, .string ⟨#[]⟩, .string ⟨#[]⟩]) (bx (blk_put (cs := #[.int .i64 t468, .string ⟨#[]⟩, .string ⟨#[]⟩, .string ⟨#[]⟩, .string ⟨#[]⟩, .string ⟨#[]⟩]) (bx (blk_put (cs := #[.int .i64 0, .string ⟨#[]⟩, .string ⟨#[]⟩, .string ⟨#[]⟩, .string ⟨#[]⟩, .string ⟨#[]⟩]) (bx BK433.out) 0 _ rfl)) 1 _ rfl)) 2 _ rfl)) 3 _ rfl)) 4 _ rfl)) 5 _ rfl)) Tryd.underlying50 rfl (by kernel_rfl)) rfl ?_
   exact ⟨by first | rfl | (simp [errW_none, errW_some] <;> rfl) | (simp [*, errW_none, errW_some] <;> rfl), bq⟩
  ·
   rw [if_neg c38] at H
   have c38b0 : ((wrap64 (1 + (Int.tmod (wrap64 ((Int.tmod a0_0 7) + 7)) 7))) == 2) = false := beq_eq_false_iff_ne.mpr c38
   have c38b1 : ((wrap64 (1 + (Int.tmod (wrap64 ((Int.tmod a0_0 7) + 7)) 7))) != 2) = true := bne_iff_ne.mpr c38
   by_cases c72 : (wrap64 (1 + (Int.tmod (wrap64 ((Int.tmod a0_0 7) + 7)) 7))) = 3
   ·
    rw [if_pos c72] at H
    have c72b0 : ((wrap64 (1 + (Int.tmod (wrap64 ((Int.tmod a0_0 7) + 7)) 7))) == 3) = true := beq_iff_eq.mpr c72
    have c72b1 : ((wrap64 (1 + (Int.tmod (wrap64 ((Int.tmod a0_0 7) + 7)) 7))) != 3) = false := bne_eq_false_iff_eq.mpr c72
    (try (have c72b2 : ((wrap64 (1 + (Int.tmod (wrap64 ((Int.tmod a0_0 7) + 7)) 7))) : Int).toNat = 3 := by rw [c72]; rfl))
    clear c72
    replace H := Option.bind_eq_some_iff.mp H
    obtain ⟨t474, A730, H⟩ := H
    have A73 := ak A730
    clear A730
    replace H := Option.bind_eq_some_iff.mp H
    obtain ⟨t477, A740, H⟩ := H
    have A74 := ak A740
    clear A740
    replace H := Option.bind_eq_some_iff.mp H
    obtain ⟨t478, A750, H⟩ := H
    have A75 := ak A750
    clear A750
    replace H := Option.bind_eq_some_iff.mp H
    obtain ⟨t481, A760, H⟩ := H
    have A76 := ak A760
    clear A760
    obtain ⟨y482, hy482⟩ : ∃ y_ : List ByteArray, y_ = (([⟨#[]⟩, ⟨#[108, 97, 116, 110]⟩] : List ByteArray)) := ⟨_, rfl⟩
    replace H : ((isoglossref06_Pick.f y482 a0_4).bind fun t485 => ((isoglossref06_Pick.f (([⟨#[]⟩, ⟨#[]⟩, ⟨#[117, 115]⟩] : List ByteArray)) a0_5).bind fun t489 => ((isoglossref12_spoilt.f k (wrap64 (1 + (Int.tmod (wrap64 ((Int.tmod a0_0 7) + 7)) 7))) t477 (⟨#[]⟩ : ByteArray) t481 t485 t489 (Int.tmod (wrap64 ((Int.tmod a0_6 9) + 9)) 9)).bind fun bt490 => (some (bt490.1, bt490.2.1, bt490.2.2.1, bt490.2.2.2.1, bt490.2.2.2.2.1, bt490.2.2.2.2.2))))) = some (r1, r2, r3, r4, r5, r6) := by first | (rw [hy482]; with_reducible exact H) | (have H2_ := (Option.bind_some _ _).symm.trans H; rw [hy482]; with_reducible exact H2_) | (have H2_ := (Option.bind_some _ _).symm.trans H; with_reducible exact H2_) | with_reducible exact H | (rw [hy482]; exact H) | exact H
    have Ny482 := ak hy482
    clear hy482
    replace H := Option.bind_eq_some_iff.mp H
    obtain ⟨t485, A770, H⟩ := H
    have A77 := ak A770
    clear A770
    obtain ⟨y486, hy486⟩ : ∃ y_ : List ByteArray, y_ = (([⟨#[]⟩, ⟨#[]⟩, ⟨#[117, 115]⟩] : List ByteArray)) := ⟨_, rfl⟩
    replace H : ((isoglossref06_Pick.f y486 a0_5).bind fun t489 => ((isoglossref12_spoilt.f k (wrap64 (1 + (Int.tmod (wrap64 ((Int.tmod a0_0 7) + 7)) 7))) t477 (⟨#[]⟩ : ByteArray) t481 t485 t489 (Int.tmod (wrap64 ((Int.tmod a0_6 9) + 9)) 9)).bind fun bt490 => (some (bt490.1, bt490.2.1, bt490.2.2.1, bt490.2.2.2.1, bt490.2.2.2.2.1, bt490.2.2.2.2.2)))) = some (r1, r2, r3, r4, r5, r6) := by first | (rw [hy486]; with_reducible exact H) | (have H2_ := (Option.bind_some _ _).symm.trans H; rw [hy486]; with_reducible exact H2_) | (have H2_ := (Option.bind_some _ _).symm.trans H; with_reducible exact H2_) | with_reducible exact H | (rw [hy486]; exact H) | exact H
    have Ny486 := ak hy486
    clear hy486
    replace H := Option.bind_eq_some_iff.mp H
    obtain ⟨t489, A780, H⟩ := H
    have A78 := ak A780
    clear A780
    replace H := Option.bind_eq_some_iff.mp H
    obtain ⟨⟨t490, t491, t492, t493, t494, t495⟩, A790, H⟩ := H
    replace H : (some (t490, t491, t492, t493, t494, t495)) = some (r1, r2, r3, r4, r5, r6) := H
    have A79 := ak A790
    clear A790
    simp only [Option.some.injEq, Prod.mk.injEq] at H
    obtain ⟨rfl, rfl, rfl, rfl, rfl, rfl⟩ := H
    go_enter Tryd.func34, Tryd.ntmps34
    try go_wp2_with (first | ((with_reducible refine gate_dst (N := 1) rfl ?_); refine box_event ?hg (N := 1) ?hd (cs := #[.int .i64 a0_0, .int .i64 a0_1, .int .i64 a0_2, .int .i64 a0_3, .int .i64 a0_4, .int .i64 a0_5, .int .i64 a0_6]) (t := 52) ?hr ?_; (case hd => rfl); (case hg => rfl); (case hr => first | (go_simp; done) | (go_simp; rfl)); intro gb432 hg w80 hbox hb; have n0_ := ak (below_step bq hb); have n1_ := ak (hbox); have n2_ := ak ((by rw [hg]; exact (below_size bq) : w.heap.size ≤ gb432)); have n3_ := ak ((by rw [hg]; exact (below_size bq) : w.heap.size ≤ gb432)); clear HB; have HB := n0_; have BK432 := n1_; have GW432 := n2_; have GE432 := n3_; clear n0_ n1_ n2_ n3_; clear hb hbox hg) | ((with_reducible refine gate_dst (N := 2) rfl ?_); refine box_event ?hg (N := 2) ?hd (cs := #[.int .i64 0, .string ⟨#[]⟩, .string ⟨#[]⟩, .string ⟨#[]⟩, .string ⟨#[]⟩, .string ⟨#[]⟩]) (t := 50) ?hr ?_; (case hd => rfl); (case hg => rfl); (case hr => first | (go_simp; done) | (go_simp; rfl)); intro gb433 hg w81 hbox hb; have n0_ := ak (blk_below (g := gb432) (bx BK432.out) hb); have n1_ := ak (below_step bq hb); have n2_ := ak (hbox); have n3_ := ak ((by rw [hg]; exact (below_size bq) : w.heap.size ≤ gb433)); have n4_ := ak ((by rw [hg]; exact (below_size bq) : w.heap.size ≤ gb433)); have n5_ := ak ((by rw [hg]; exact Nat.ne_of_lt (blk_lt (g := gb432) (bx BK432.out)) : gb432 ≠ gb433)); have n6_ := ak ((by rw [hg]; exact Nat.ne_of_gt (blk_lt (g := gb432) (bx BK432.out)) : gb433 ≠ gb432)); clear BK432; clear HB; have BK432 := n0_; have HB := n1_; have BK433 := n2_; have GW433 := n3_; have GE433 := n4_; have NB432_433 := n5_; have NB433_432 := n6_; clear n0_ n1_ n2_ n3_ n4_ n5_ n6_; clear hb hbox hg; have hnb82 := NB432_433.out; have hnc82 := NB433_432.out; obtain ⟨hcz83_0, hcz83_1, hcz83_2, hcz83_3, hcz83_4, hcz83_5, hcz83_6⟩ := cz7 BK432.out; obtain ⟨hfz83_0, hfz83_1, hfz83_2, hfz83_3, hfz83_4, hfz83_5, hfz83_6⟩ := fz7 BK432.out) | ((with_reducible refine gate_dst (N := 3) rfl ?_); refine box_event ?hg (N := 3) ?hd (cs := #[.int .i64 0, .string ⟨#[]⟩, .string ⟨#[]⟩, .string ⟨#[]⟩, .string ⟨#[]⟩, .string ⟨#[]⟩]) (t := 50) ?hr ?_; (case hd => rfl); (case hg => rfl); (case hr => first | (go_simp; done) | (go_simp; rfl)); intro gb434 hg w84 hbox hb; have n0_ := ak (blk_below (g := gb432) (bx BK432.out) hb); have n1_ := ak (blk_below (g := gb433) (bx BK433.out) hb); have n2_ := ak (below_step bq hb); have n3_ := ak (hbox); have n4_ := ak ((by rw [hg]; exact (below_size bq) : w.heap.size ≤ gb434)); have n5_ := ak ((by rw [hg]; exact (below_size bq) : w.heap.size ≤ gb434)); have n6_ := ak ((by rw [hg]; exact Nat.ne_of_lt (blk_lt (g := gb432) (bx BK432.out)) : gb432 ≠ gb434)); have n7_ := ak ((by rw [hg]; exact Nat.ne_of_gt (blk_lt (g := gb432) (bx BK432.out)) : gb434 ≠ gb432)); have n8_ := ak ((by rw [hg]; exact Nat.ne_of_lt (blk_lt (g := gb433) (bx BK433.out)) : gb433 ≠ gb434)); have n9_ := ak ((by rw [hg]; exact Nat.ne_of_gt (blk_lt (g := gb433) (bx BK433.out)) : gb434 ≠ gb433)); clear BK432; clear BK433; clear HB; have BK432 := n0_; have BK433 := n1_; have HB := n2_; have BK434 := n3_; have GW434 := n4_; have GE434 := n5_; have NB432_434 := n6_; have NB434_432 := n7_; have NB433_434 := n8_; have NB434_433 := n9_; clear n0_ n1_ n2_ n3_ n4_ n5_ n6_ n7_ n8_ n9_; clear hb hbox hg; have hnb85 := NB434_432.out; have hnc85 := NB432_434.out; have hnb86 := NB434_433.out; have hnc86 := NB433_434.out; obtain ⟨hcz87_0, hcz87_1, hcz87_2, hcz87_3, hcz87_4, hcz87_5⟩ := cz6 BK434.out; obtain ⟨hfz87_0, hfz87_1, hfz87_2, hfz87_3, hfz87_4, hfz87_5⟩ := fz6 BK434.out))
    have n0_ : Aside0 (((((((w84.setCell ⟨gb434, 0, none⟩ (.int .i64 (wrap64 (1 + (Int.tmod (wrap64 ((Int.tmod a0_0 7) + 7)) 7))))).setCell ⟨gb434, 1, none⟩ (.string ⟨#[]⟩)).setCell ⟨gb434, 2, none⟩ (.string ⟨#[]⟩)).setCell ⟨gb434, 3, none⟩ (.string ⟨#[]⟩)).setCell ⟨gb434, 4, none⟩ (.string ⟨#[]⟩)).setCell ⟨gb434, 5, none⟩ (.string ⟨#[]⟩)).heap[gb432]? = some (.cells #[.int .i64 a0_0, .int .i64 a0_1, .int .i64 a0_2, .int .i64 a0_3, .int .i64 a0_4, .int .i64 a0_5, .int .i64 a0_6] 52 (0, 0))) := ⟨(bx (blk_far (bx (blk_far (bx (blk_far (bx (blk_far (bx (blk_far (bx (blk_far (bx BK432.out) NB432_434.out _)) NB432_434.out _)) NB432_434.out _)) NB432_434.out _)) NB432_434.out _)) NB432_434.out _))⟩
    have n1_ : Aside0 (((((((w84.setCell ⟨gb434, 0, none⟩ (.int .i64 (wrap64 (1 + (Int.tmod (wrap64 ((Int.tmod a0_0 7) + 7)) 7))))).setCell ⟨gb434, 1, none⟩ (.string ⟨#[]⟩)).setCell ⟨gb434, 2, none⟩ (.string ⟨#[]⟩)).setCell ⟨gb434, 3, none⟩ (.string ⟨#[]⟩)).setCell ⟨gb434, 4, none⟩ (.string ⟨#[]⟩)).setCell ⟨gb434, 5, none⟩ (.string ⟨#[]⟩)).heap[gb433]? = some (.cells #[.int .i64 0, .string ⟨#[]⟩, .string ⟨#[]⟩, .string ⟨#[]⟩, .string ⟨#[]⟩, .string ⟨#[]⟩] 50 (0, 0))) := ⟨(bx (blk_far (bx (blk_far (bx (blk_far (bx (blk_far (bx (blk_far (bx (blk_far (bx BK433.out) NB433_434.out _)) NB433_434.out _)) NB433_434.out _)) NB433_434.out _)) NB433_434.out _)) NB433_434.out _))⟩
    have n2_ : Aside0 (((((((w84.setCell ⟨gb434, 0, none⟩ (.int .i64 (wrap64 (1 + (Int.tmod (wrap64 ((Int.tmod a0_0 7) + 7)) 7))))).setCell ⟨gb434, 1, none⟩ (.string ⟨#[]⟩)).setCell ⟨gb434, 2, none⟩ (.string ⟨#[]⟩)).setCell ⟨gb434, 3, none⟩ (.string ⟨#[]⟩)).setCell ⟨gb434, 4, none⟩ (.string ⟨#[]⟩)).setCell ⟨gb434, 5, none⟩ (.string ⟨#[]⟩)).heap[gb434]? = some (.cells #[.int .i64 (wrap64 (1 + (Int.tmod (wrap64 ((Int.tmod a0_0 7) + 7)) 7))), .string ⟨#[]⟩, .string ⟨#[]⟩, .string ⟨#[]⟩, .string ⟨#[]⟩, .string ⟨#[]⟩] 50 (0, 0))) := ⟨(bx (blk_put (cs := #[.int .i64 (wrap64 (1 + (Int.tmod (wrap64 ((Int.tmod a0_0 7) + 7)) 7))), .string ⟨#[]⟩, .string ⟨#[]⟩, .string ⟨#[]⟩, .string ⟨#[]⟩, .string ⟨#[]⟩]) (bx (blk_put (cs := #[.int .i64 (wrap64 (1 + (Int.tmod (wrap64 ((Int.tmod a0_0 7) + 7)) 7))), .string ⟨#[]⟩, .string ⟨#[]⟩, .string ⟨#[]⟩, .string ⟨#[]⟩, .string ⟨#[]⟩]) (bx (blk_put (cs := #[.int .i64 (wrap64 (1 + (Int.tmod (wrap64 ((Int.tmod a0_0 7) + 7)) 7))), .string ⟨#[]⟩, .string ⟨#[]⟩, .string ⟨#[]⟩, .string ⟨#[]⟩, .string ⟨#[]⟩]) (bx (blk_put (cs := #[.int .i64 (wrap64 (1 + (Int.tmod (wrap64 ((Int.tmod a0_0 7) + 7)) 7))), .string ⟨#[]⟩, .string ⟨#[]⟩, .string ⟨#[]⟩, .string ⟨#[]⟩, .string ⟨#[]⟩]) (bx (blk_put (cs := #[.int .i64 (wrap64 (1 + (Int.tmod (wrap64 ((Int.tmod a0_0 7) + 7)) 7))), .string ⟨#[]⟩, .string ⟨#[]⟩, .string ⟨#[]⟩, .string ⟨#[]⟩, .string ⟨#[]⟩]) (bx (blk_put (cs := #[.int .i64 0, .string ⟨#[]⟩, .string ⟨#[]⟩, .string ⟨#[]⟩, .string ⟨#[]⟩, .string ⟨#[]⟩]) (bx BK434.out) 0 _ rfl)) 1 _ rfl)) 2 _ rfl)) 3 _ rfl)) 4 _ rfl)) 5 _ rfl))⟩
    have n3_ : Aside0 (Below w.heap.size w ((((((w84.setCell ⟨gb434, 0, none⟩ (.int .i64 (wrap64 (1 + (Int.tmod (wrap64 ((Int.tmod a0_0 7) + 7)) 7))))).setCell ⟨gb434, 1, none⟩ (.string ⟨#[]⟩)).setCell ⟨gb434, 2, none⟩ (.string ⟨#[]⟩)).setCell ⟨gb434, 3, none⟩ (.string ⟨#[]⟩)).setCell ⟨gb434, 4, none⟩ (.string ⟨#[]⟩)).setCell ⟨gb434, 5, none⟩ (.string ⟨#[]⟩))) := ⟨bq⟩
    (try clear BK432)
    (try clear BK433)
    (try clear BK434)
    (try clear HB)
    generalize ((((((w84.setCell ⟨gb434, 0, none⟩ (.int .i64 (wrap64 (1 + (Int.tmod (wrap64 ((Int.tmod a0_0 7) + 7)) 7))))).setCell ⟨gb434, 1, none⟩ (.string ⟨#[]⟩)).setCell ⟨gb434, 2, none⟩ (.string ⟨#[]⟩)).setCell ⟨gb434, 3, none⟩ (.string ⟨#[]⟩)).setCell ⟨gb434, 4, none⟩ (.string ⟨#[]⟩)).setCell ⟨gb434, 5, none⟩ (.string ⟨#[]⟩)) = w88 at n0_ n1_ n2_ n3_ ⊢
    have BK432 := n0_
    have BK433 := n1_
    have BK434 := n2_
    have HB := n3_
    clear n0_ n1_ n2_ n3_
    have n0_ := ak (blk_drew BK432.out)
    have n1_ := ak (blk_drew BK433.out)
    have n2_ := ak (blk_drew BK434.out)
    have n3_ := ak (below_drew1 HB.out)
    clear BK432
    clear BK433
    clear BK434
    clear HB
    have BK432 := n0_
    have BK433 := n1_
    have BK434 := n2_
    have HB := n3_
    clear n0_ n1_ n2_ n3_
    refine start_ (n := 6) (S := fun w' => w'.cell? ⟨gb432, 0, none⟩ = some (.int .i64 a0_0) ∧ w'.cell? ⟨gb432, 1, none⟩ = some (.int .i64 a0_1) ∧ w'.cell? ⟨gb432, 2, none⟩ = some (.int .i64 a0_2) ∧ w'.cell? ⟨gb432, 3, none⟩ = some (.int .i64 a0_3) ∧ w'.cell? ⟨gb432, 4, none⟩ = some (.int .i64 a0_4) ∧ w'.cell? ⟨gb432, 5, none⟩ = some (.int .i64 a0_5) ∧ w'.cell? ⟨gb432, 6, none⟩ = some (.int .i64 a0_6)) (ds := []) #[false, false, false, false, false, false] (by kernel_rfl) rfl rfl ⟨(blk_cell BK432.out 0).trans rfl, (blk_cell BK432.out 1).trans rfl, (blk_cell BK432.out 2).trans rfl, (blk_cell BK432.out 3).trans rfl, (blk_cell BK432.out 4).trans rfl, (blk_cell BK432.out 5).trans rfl, (blk_cell BK432.out 6).trans rfl⟩ (fun hHeld => ?_)
    generalize w88.drew = w89 at BK432 BK433 BK434 HB hHeld ⊢
    refine pure_ (i := 1) (N := some 82) (v := ?_) (a' := ?_) (M 6 2) rfl rfl (by kernel_rfl) (fun _ _ _ h => h) (Or.inl ⟨by rfl, ?_⟩) ?_ ?_
    rotate_left
    ·
     intro w'
     go_simp
     with_reducible rfl
    rotate_left
    ·
     simp only [Act.put, pA, pB, pC, i64_w, i32_w]
     rfl
    refine take_ (i := 2) (N := some 83) (v := ?_) (a' := ?_) (M 6 6) rfl rfl (by kernel_rfl) (fun _ _ _ h => h) (Or.inl ⟨by rfl, ?_⟩) hHeld ?_ ?_
    rotate_left
    ·
     rintro w' ⟨s0, s1, s2, s3, s4, s5, s6⟩
     go_simp
     with_reducible rfl
    rotate_left
    ·
     simp only [Act.put, pA, pB, pC, i64_w, i32_w]
     rfl
    refine one_ (i := 0) (N := some 81) (M 6 7) rfl rfl (by kernel_rfl) (by decide) (fun K hK => ?_)
    refine goes_ Tryd.func58 (by kernel_rfl) rfl #[] (by rfl) rfl rfl mq ?_
    with_reducible refine (isoglossref12_langs.calls  t474 _ A73.out).mono ?_
    rintro e w90 ⟨v475, rfl, ho0, hb⟩
    refine ⟨_, rfl, ?_⟩
    have n0_ := ak (Kd.R_lower ho0 (below_size bq))
    have n1_ := ak (blk_below (g := gb432) (bx BK432.out) hb)
    have n2_ := ak (blk_below (g := gb433) (bx BK433.out) hb)
    have n3_ := ak (blk_below (g := gb434) (bx BK434.out) hb)
    have n4_ := ak (below_step bq hb)
    clear BK432
    clear BK433
    clear BK434
    clear HB
    have HO476 := n0_
    have BK432 := n1_
    have BK433 := n2_
    have BK434 := n3_
    have HB := n4_
    clear n0_ n1_ n2_ n3_ n4_
    (try clear hb)
    (try clear hb2)
    (try clear hk)
    (try clear hi)
    (try clear ho0)
    obtain ⟨Ao91, co91, eo91⟩ := Kd.R_slice HO476.out
    (first | subst eo91 | (injection eo91 with f1_ f2_ f3_; have f4_ := f1_.symm; have f5_ := f3_.symm; clear f1_ f2_ f3_; subst f4_; subst f5_))
    refine hK.out _ _ ⟨(blk_cell BK432.out 0).trans rfl, (blk_cell BK432.out 1).trans rfl, (blk_cell BK432.out 2).trans rfl, (blk_cell BK432.out 3).trans rfl, (blk_cell BK432.out 4).trans rfl, (blk_cell BK432.out 5).trans rfl, (blk_cell BK432.out 6).trans rfl⟩ (fun hHeld => ?_)
    clear hK K
    refine norm_ (a' := ?_) ?_ ?_
    rotate_left
    ·
     show Act.put _ (some 81) _ = _
     simp only [Act.put, pA, pB, pC, i64_w, i32_w]
     rfl
    refine one_ (i := 3) (N := some 84) (M 6 15) rfl rfl (by kernel_rfl) (by decide) (fun K hK => ?_)
    refine goes_ Tryd.func56 (by kernel_rfl) rfl #[.slice Ao91 t474.length co91, .int .i64 a0_1] (by rfl) rfl rfl mq ?_
    with_reducible refine (isoglossref06_Pick.calls _ _ t474 a0_1 t477 _ ?side1 ?side2 A74.out).mono ?_
    (case side1 => repeat (first | exact (Kd.R_reads' HO476.out).2.2 | (with_reducible refine Kd.C_alloc ?_ _) | (with_reducible refine Kd.C_drewN ?_ _) | (with_reducible refine Kd.C_drew ?_)))
    (case side2 => exact (Kd.R_reads' HO476.out).2.1)
    rintro e w' ⟨rfl, ⟨nd, rfl⟩⟩
    refine ⟨_, rfl, ?_⟩
    refine hK.out _ _ ⟨(blk_cell BK432.out 0).trans rfl, (blk_cell BK432.out 1).trans rfl, (blk_cell BK432.out 2).trans rfl, (blk_cell BK432.out 3).trans rfl, (blk_cell BK432.out 4).trans rfl, (blk_cell BK432.out 5).trans rfl, (blk_cell BK432.out 6).trans rfl⟩ (fun hHeld => ?_)
    clear hK K
    refine norm_ (a' := ?_) ?_ ?_
    rotate_left
    ·
     show Act.put _ (some 84) _ = _
     simp only [Act.put, pA, pB, pC, i64_w, i32_w]
     rfl
    refine pure_ (i := 4) (N := some 85) (v := ?_) (a' := ?_) (M 6 31) rfl rfl (by kernel_rfl) (fun _ _ _ h => h) (Or.inl ⟨by rfl, ?_⟩) ?_ ?_
    rotate_left
    ·
     intro w'
     go_simp
     with_reducible rfl
    rotate_left
    ·
     simp only [Act.put, pA, pB, pC, i64_w, i32_w]
     rfl
    refine one_ (i := 5) (N := none) (M 6 63) rfl rfl (by kernel_rfl) (by decide) (fun K hK => ?_)
    have hs92 : w90.cell? ⟨gb434, 1, none⟩ = some (.string ⟨#[]⟩) := (blk_cell BK434.out 1).trans rfl
    have hfs92 := blk_frozen BK434.out 1
    have hns92_0 := NB432_434.out
    have hns92_1 := NB433_434.out
    have hms92_0 := NB434_432.out
    have hms92_1 := NB434_433.out
    refine skip_ (w1 := ?_) (by rfl) rfl ?_ ?_
    rotate_left
    ·
     go_simp
     rfl
    refine hK.out _ _ ⟨((cell_far (p := ⟨gb434, _, none⟩) NB432_434.out _).trans (hHeld.1)), ((cell_far (p := ⟨gb434, _, none⟩) NB432_434.out _).trans (hHeld.2.1)), ((cell_far (p := ⟨gb434, _, none⟩) NB432_434.out _).trans (hHeld.2.2.1)), ((cell_far (p := ⟨gb434, _, none⟩) NB432_434.out _).trans (hHeld.2.2.2.1)), ((cell_far (p := ⟨gb434, _, none⟩) NB432_434.out _).trans (hHeld.2.2.2.2.1)), ((cell_far (p := ⟨gb434, _, none⟩) NB432_434.out _).trans (hHeld.2.2.2.2.2.1)), ((cell_far (p := ⟨gb434, _, none⟩) NB432_434.out _).trans (hHeld.2.2.2.2.2.2))⟩ (fun hHeld => ?_)
    clear hK K
    refine done_ (by kernel_rfl) ?_
    try go_wp2
    have n0_ : Aside0 (Kd.R Kd.string 9 (w90.setCell ⟨gb434, 1, none⟩ (.string t477)) w.heap.size (fun _ => True) (.slice Ao91 t474.length co91) t474) := ⟨(rx (Kd.R_mono (Kd.R_far (p := ⟨gb434, 1, none⟩) (Kd.R_types HO476.out BK434.out (by decide)) (fun _ hk => hk.2) (.string t477)) (fun _ hk => trivial)))⟩
    have n1_ : Aside0 ((w90.setCell ⟨gb434, 1, none⟩ (.string t477)).heap[gb432]? = some (.cells #[.int .i64 a0_0, .int .i64 a0_1, .int .i64 a0_2, .int .i64 a0_3, .int .i64 a0_4, .int .i64 a0_5, .int .i64 a0_6] 52 (0, 0))) := ⟨(bx (blk_far (bx BK432.out) NB432_434.out _))⟩
    have n2_ : Aside0 ((w90.setCell ⟨gb434, 1, none⟩ (.string t477)).heap[gb433]? = some (.cells #[.int .i64 0, .string ⟨#[]⟩, .string ⟨#[]⟩, .string ⟨#[]⟩, .string ⟨#[]⟩, .string ⟨#[]⟩] 50 (0, 0))) := ⟨(bx (blk_far (bx BK433.out) NB433_434.out _))⟩
    have n3_ : Aside0 ((w90.setCell ⟨gb434, 1, none⟩ (.string t477)).heap[gb434]? = some (.cells #[.int .i64 (wrap64 (1 + (Int.tmod (wrap64 ((Int.tmod a0_0 7) + 7)) 7))), .string t477, .string ⟨#[]⟩, .string ⟨#[]⟩, .string ⟨#[]⟩, .string ⟨#[]⟩] 50 (0, 0))) := ⟨(bx (blk_put (cs := #[.int .i64 (wrap64 (1 + (Int.tmod (wrap64 ((Int.tmod a0_0 7) + 7)) 7))), .string ⟨#[]⟩, .string ⟨#[]⟩, .string ⟨#[]⟩, .string ⟨#[]⟩, .string ⟨#[]⟩]) (bx BK434.out) 1 _ rfl))⟩
    have n4_ : Aside0 (Below w.heap.size w (w90.setCell ⟨gb434, 1, none⟩ (.string t477))) := ⟨bq⟩
    (try clear HO476)
    (try clear BK432)
    (try clear BK433)
    (try clear BK434)
    (try clear HB)
    (try rw [setN])
    generalize (w90.setCell ⟨gb434, 1, none⟩ (.string t477)) = w93 at n0_ n1_ n2_ n3_ n4_ ⊢
    have HO476 := n0_
    have BK432 := n1_
    have BK433 := n2_
    have BK434 := n3_
    have HB := n4_
    clear n0_ n1_ n2_ n3_ n4_
    (try (rw [drewN_self w93]; generalize hq_ : World.drewN w93 _ = w93; have n0_ : Aside0 (Kd.R Kd.string 9 w93 w.heap.size (fun _ => True) (.slice Ao91 t474.length co91) t474) := ⟨by rw [← hq_]; exact (rx HO476.out)⟩; have n1_ : Aside0 (w93.heap[gb432]? = some (.cells #[.int .i64 a0_0, .int .i64 a0_1, .int .i64 a0_2, .int .i64 a0_3, .int .i64 a0_4, .int .i64 a0_5, .int .i64 a0_6] 52 (0, 0))) := ⟨by rw [← hq_]; exact (bx BK432.out)⟩; have n2_ : Aside0 (w93.heap[gb433]? = some (.cells #[.int .i64 0, .string ⟨#[]⟩, .string ⟨#[]⟩, .string ⟨#[]⟩, .string ⟨#[]⟩, .string ⟨#[]⟩] 50 (0, 0))) := ⟨by rw [← hq_]; exact (bx BK433.out)⟩; have n3_ : Aside0 (w93.heap[gb434]? = some (.cells #[.int .i64 (wrap64 (1 + (Int.tmod (wrap64 ((Int.tmod a0_0 7) + 7)) 7))), .string t477, .string ⟨#[]⟩, .string ⟨#[]⟩, .string ⟨#[]⟩, .string ⟨#[]⟩] 50 (0, 0))) := ⟨by rw [← hq_]; exact (bx BK434.out)⟩; have n4_ : Aside0 (Below w.heap.size w w93) := ⟨by rw [← hq_]; exact bq⟩; clear HO476 BK432 BK433 BK434 HB hq_; have HO476 := n0_; have BK432 := n1_; have BK433 := n2_; have BK434 := n3_; have HB := n4_; clear n0_ n1_ n2_ n3_ n4_; obtain ⟨hczq_0, hczq_1, hczq_2, hczq_3, hczq_4, hczq_5, hczq_6⟩ := cz7 BK432.out))
    have n0_ := ak (Kd.R_drew HO476.out)
    have n1_ := ak (blk_drew BK432.out)
    have n2_ := ak (blk_drew BK433.out)
    have n3_ := ak (blk_drew BK434.out)
    have n4_ := ak (below_drew1 HB.out)
    clear HO476
    clear BK432
    clear BK433
    clear BK434
    clear HB
    have HO476 := n0_
    have BK432 := n1_
    have BK433 := n2_
    have BK434 := n3_
    have HB := n4_
    clear n0_ n1_ n2_ n3_ n4_
    refine start_ (n := 6) (S := fun w' => w'.cell? ⟨gb432, 0, none⟩ = some (.int .i64 a0_0) ∧ w'.cell? ⟨gb432, 1, none⟩ = some (.int .i64 a0_1) ∧ w'.cell? ⟨gb432, 2, none⟩ = some (.int .i64 a0_2) ∧ w'.cell? ⟨gb432, 3, none⟩ = some (.int .i64 a0_3) ∧ w'.cell? ⟨gb432, 4, none⟩ = some (.int .i64 a0_4) ∧ w'.cell? ⟨gb432, 5, none⟩ = some (.int .i64 a0_5) ∧ w'.cell? ⟨gb432, 6, none⟩ = some (.int .i64 a0_6)) (ds := []) #[false, false, false, false, false, false] (by kernel_rfl) rfl rfl ⟨(blk_cell BK432.out 0).trans rfl, (blk_cell BK432.out 1).trans rfl, (blk_cell BK432.out 2).trans rfl, (blk_cell BK432.out 3).trans rfl, (blk_cell BK432.out 4).trans rfl, (blk_cell BK432.out 5).trans rfl, (blk_cell BK432.out 6).trans rfl⟩ (fun hHeld => ?_)
    generalize w93.drew = w94 at HO476 BK432 BK433 BK434 HB hHeld ⊢
    refine pure_ (i := 1) (N := some 87) (v := ?_) (a' := ?_) (M 6 2) rfl rfl (by kernel_rfl) (fun _ _ _ h => h) (Or.inl ⟨by rfl, ?_⟩) ?_ ?_
    rotate_left
    ·
     intro w'
     go_simp
     with_reducible rfl
    rotate_left
    ·
     simp only [Act.put, pA, pB, pC, i64_w, i32_w]
     rfl
    refine take_ (i := 2) (N := some 88) (v := ?_) (a' := ?_) (M 6 6) rfl rfl (by kernel_rfl) (fun _ _ _ h => h) (Or.inl ⟨by rfl, ?_⟩) hHeld ?_ ?_
    rotate_left
    ·
     rintro w' ⟨s0, s1, s2, s3, s4, s5, s6⟩
     go_simp
     with_reducible rfl
    rotate_left
    ·
     simp only [Act.put, pA, pB, pC, i64_w, i32_w]
     rfl
    refine one_ (i := 0) (N := some 86) (M 6 7) rfl rfl (by kernel_rfl) (by decide) (fun K hK => ?_)
    refine goes_ Tryd.func57 (by kernel_rfl) rfl #[] (by rfl) rfl rfl mq ?_
    with_reducible refine (isoglossref12_toLangs.calls  t478 _ A75.out).mono ?_
    rintro e w95 ⟨v479, rfl, ho0, hb⟩
    refine ⟨_, rfl, ?_⟩
    have n0_ := ak (Kd.R_elder' (rx HO476.out) (Kd.R_base ho0) hb)
    have n1_ := ak (Kd.R_lower (Kd.R_new' ho0 (Kd.R_lt (rx HO476.out))) (below_size bq))
    have n2_ := ak (blk_below (g := gb432) (bx BK432.out) hb)
    have n3_ := ak (blk_below (g := gb433) (bx BK433.out) hb)
    have n4_ := ak (blk_below (g := gb434) (bx BK434.out) hb)
    have n5_ := ak (below_step bq hb)
    clear HO476
    clear BK432
    clear BK433
    clear BK434
    clear HB
    have HO476 := n0_
    have HO480 := n1_
    have BK432 := n2_
    have BK433 := n3_
    have BK434 := n4_
    have HB := n5_
    clear n0_ n1_ n2_ n3_ n4_ n5_
    (try clear hb)
    (try clear hb2)
    (try clear hk)
    (try clear hi)
    (try clear ho0)
    obtain ⟨Ao96, co96, eo96⟩ := Kd.R_slice HO480.out
    (first | subst eo96 | (injection eo96 with f1_ f2_ f3_; have f4_ := f1_.symm; have f5_ := f3_.symm; clear f1_ f2_ f3_; subst f4_; subst f5_))
    refine hK.out _ _ ⟨(blk_cell BK432.out 0).trans rfl, (blk_cell BK432.out 1).trans rfl, (blk_cell BK432.out 2).trans rfl, (blk_cell BK432.out 3).trans rfl, (blk_cell BK432.out 4).trans rfl, (blk_cell BK432.out 5).trans rfl, (blk_cell BK432.out 6).trans rfl⟩ (fun hHeld => ?_)
    clear hK K
    refine norm_ (a' := ?_) ?_ ?_
    rotate_left
    ·
     show Act.put _ (some 86) _ = _
     simp only [Act.put, pA, pB, pC, i64_w, i32_w]
     rfl
    refine one_ (i := 3) (N := some 89) (M 6 15) rfl rfl (by kernel_rfl) (by decide) (fun K hK => ?_)
    refine goes_ Tryd.func56 (by kernel_rfl) rfl #[.slice Ao96 t478.length co96, .int .i64 a0_3] (by rfl) rfl rfl mq ?_
    with_reducible refine (isoglossref06_Pick.calls _ _ t478 a0_3 t481 _ ?side1 ?side2 A76.out).mono ?_
    (case side1 => repeat (first | exact (Kd.R_reads' HO480.out).2.2 | (with_reducible refine Kd.C_alloc ?_ _) | (with_reducible refine Kd.C_drewN ?_ _) | (with_reducible refine Kd.C_drew ?_)))
    (case side2 => exact (Kd.R_reads' HO480.out).2.1)
    rintro e w' ⟨rfl, ⟨nd, rfl⟩⟩
    refine ⟨_, rfl, ?_⟩
    refine hK.out _ _ ⟨(blk_cell BK432.out 0).trans rfl, (blk_cell BK432.out 1).trans rfl, (blk_cell BK432.out 2).trans rfl, (blk_cell BK432.out 3).trans rfl, (blk_cell BK432.out 4).trans rfl, (blk_cell BK432.out 5).trans rfl, (blk_cell BK432.out 6).trans rfl⟩ (fun hHeld => ?_)
    clear hK K
    refine norm_ (a' := ?_) ?_ ?_
    rotate_left
    ·
     show Act.put _ (some 89) _ = _
     simp only [Act.put, pA, pB, pC, i64_w, i32_w]
     rfl
    refine pure_ (i := 4) (N := some 90) (v := ?_) (a' := ?_) (M 6 31) rfl rfl (by kernel_rfl) (fun _ _ _ h => h) (Or.inl ⟨by rfl, ?_⟩) ?_ ?_
    rotate_left
    ·
     intro w'
     go_simp
     with_reducible rfl
    rotate_left
    ·
     simp only [Act.put, pA, pB, pC, i64_w, i32_w]
     rfl
    refine one_ (i := 5) (N := none) (M 6 63) rfl rfl (by kernel_rfl) (by decide) (fun K hK => ?_)
    have hs97 : w95.cell? ⟨gb434, 3, none⟩ = some (.string ⟨#[]⟩) := (blk_cell BK434.out 3).trans rfl
    have hfs97 := blk_frozen BK434.out 3
    have hns97_0 := NB432_434.out
    have hns97_1 := NB433_434.out
    have hms97_0 := NB434_432.out
    have hms97_1 := NB434_433.out
    refine skip_ (w1 := ?_) (by rfl) rfl ?_ ?_
    rotate_left
    ·
     go_simp
     rfl
    refine hK.out _ _ ⟨((cell_far (p := ⟨gb434, _, none⟩) NB432_434.out _).trans (hHeld.1)), ((cell_far (p := ⟨gb434, _, none⟩) NB432_434.out _).trans (hHeld.2.1)), ((cell_far (p := ⟨gb434, _, none⟩) NB432_434.out _).trans (hHeld.2.2.1)), ((cell_far (p := ⟨gb434, _, none⟩) NB432_434.out _).trans (hHeld.2.2.2.1)), ((cell_far (p := ⟨gb434, _, none⟩) NB432_434.out _).trans (hHeld.2.2.2.2.1)), ((cell_far (p := ⟨gb434, _, none⟩) NB432_434.out _).trans (hHeld.2.2.2.2.2.1)), ((cell_far (p := ⟨gb434, _, none⟩) NB432_434.out _).trans (hHeld.2.2.2.2.2.2))⟩ (fun hHeld => ?_)
    clear hK K
    refine done_ (by kernel_rfl) ?_
    try go_wp2_with (first | ((with_reducible refine gate_dst (N := 91) rfl ?_); refine Kd.R_lit Kd.string _ 9 ?hg (N := 91) ?hd (xs := ([⟨#[]⟩, ⟨#[108, 97, 116, 110]⟩] : List ByteArray)) (inner := [.string ⟨#[]⟩, .string ⟨#[108, 97, 116, 110]⟩]) (ok := fun _ => True) (okp := fun _ => True) ?hr ?hp (fun _ hk => hk) trivial (Below.refl _ _) (Nat.le_refl _) (by simp) ?_; (case hd => rfl); (case hg => rfl); (case hr => first | (go_simp; done) | (go_simp; rfl)); (case hp => exact (Reps.one (show Kd.M Kd.string _ _ _ (⟨#[]⟩ : ByteArray) [.string ⟨#[]⟩] from rfl) (Reps.one (show Kd.M Kd.string _ _ _ (⟨#[108, 97, 116, 110]⟩ : ByteArray) [.string ⟨#[108, 97, 116, 110]⟩] from rfl) (Reps.none _ _)))); intro v483 w98 ho99 hb hg_ hnew_; clear hg_ hnew_; (first | rw [← Ny482.out] at ho99 | (simp only [Int.reduceToNat] at ho99; rw [← Ny482.out] at ho99)); have n0_ := ak (Kd.R_elder' (rx ((Kd.R_mono (Kd.R_far (p := ⟨gb434, 3, none⟩) (Kd.R_types HO476.out BK434.out (by decide)) (fun _ hk => hk.2) (.string t481)) (fun _ h_ => h_.1)))) (Kd.R_base ho99) hb); have n1_ := ak (Kd.R_elder' (rx ((Kd.R_mono (Kd.R_far (p := ⟨gb434, 3, none⟩) (Kd.R_types HO480.out BK434.out (by decide)) (fun _ hk => hk.2) (.string t481)) (fun _ h_ => h_.1)))) (Kd.R_base ho99) hb); have n2_ := ak (Kd.R_lower (Kd.R_new' (Kd.R_new' ho99 (Kd.R_lt (rx ((Kd.R_mono (Kd.R_far (p := ⟨gb434, 3, none⟩) (Kd.R_types HO476.out BK434.out (by decide)) (fun _ hk => hk.2) (.string t481)) (fun _ h_ => h_.1)))))) (Kd.R_lt (rx ((Kd.R_mono (Kd.R_far (p := ⟨gb434, 3, none⟩) (Kd.R_types HO480.out BK434.out (by decide)) (fun _ hk => hk.2) (.string t481)) (fun _ h_ => h_.1)))))) (below_size bq)); have n3_ := ak (blk_below (g := gb432) (o := .cells #[.int .i64 a0_0, .int .i64 a0_1, .int .i64 a0_2, .int .i64 a0_3, .int .i64 a0_4, .int .i64 a0_5, .int .i64 a0_6] 52 (0, 0)) (bx (blk_far (bx BK432.out) NB432_434.out _)) hb); have n4_ := ak (blk_below (g := gb433) (o := .cells #[.int .i64 0, .string ⟨#[]⟩, .string ⟨#[]⟩, .string ⟨#[]⟩, .string ⟨#[]⟩, .string ⟨#[]⟩] 50 (0, 0)) (bx (blk_far (bx BK433.out) NB433_434.out _)) hb); have n5_ := ak (blk_below (g := gb434) (o := .cells #[.int .i64 (wrap64 (1 + (Int.tmod (wrap64 ((Int.tmod a0_0 7) + 7)) 7))), .string t477, .string ⟨#[]⟩, .string t481, .string ⟨#[]⟩, .string ⟨#[]⟩] 50 (0, 0)) (bx (blk_put (cs := #[.int .i64 (wrap64 (1 + (Int.tmod (wrap64 ((Int.tmod a0_0 7) + 7)) 7))), .string t477, .string ⟨#[]⟩, .string ⟨#[]⟩, .string ⟨#[]⟩, .string ⟨#[]⟩]) (bx BK434.out) 3 _ rfl)) hb); have n6_ := ak (below_step bq hb); clear HO476; clear HO480; clear BK432; clear BK433; clear BK434; clear HB; have HO476 := n0_; have HO480 := n1_; have HO484 := n2_; have BK432 := n3_; have BK433 := n4_; have BK434 := n5_; have HB := n6_; clear n0_ n1_ n2_ n3_ n4_ n5_ n6_; clear hb ho99; obtain ⟨hcz100_0, hcz100_1, hcz100_2, hcz100_3, hcz100_4, hcz100_5, hcz100_6⟩ := cz7 BK432.out; obtain ⟨hfz100_0, hfz100_1, hfz100_2, hfz100_3, hfz100_4, hfz100_5, hfz100_6⟩ := fz7 BK432.out; obtain ⟨Ao101, co101, eo101⟩ := Kd.R_slice HO484.out; subst eo101) | ((with_reducible refine gate_callee (f := 56) rfl ?_); refine goesL_ (some 94) rfl rfl Tryd.func56 (by kernel_rfl) rfl #[.slice Ao101 y482.length co101, .int .i64 a0_4] rfl mq ?_; (with_reducible refine (isoglossref06_Pick.calls _ _ y482 a0_4 t485 _ ?side1 ?side2 A77.out).mono ?_); (case side1 => repeat (first | exact (Kd.R_reads' HO484.out).2.2 | (with_reducible refine Kd.C_alloc ?_ _) | (with_reducible refine Kd.C_drewN ?_ _) | (with_reducible refine Kd.C_drew ?_))); (case side2 => exact (Kd.R_reads' HO484.out).2.1); rintro e w' ⟨rfl, ⟨nd, rfl⟩⟩; refine ⟨_, rfl, ?_⟩; (try (rw [drewN_self w98]; generalize hq_ : World.drewN w98 _ = w98; have n0_ : Aside0 (Kd.R Kd.string 9 w98 w.heap.size (fun k_ => some k_ ≠ (.slice Ao96 t478.length co96 : Value).ownBlock ∧ some k_ ≠ (.slice Ao101 y482.length co101 : Value).ownBlock) (.slice Ao91 t474.length co91) t474) := ⟨by rw [← hq_]; exact (rx (Kd.R_mono HO476.out (fun _ hk => ⟨hk.1.2, hk.2⟩)))⟩; have n1_ : Aside0 (Kd.R Kd.string 9 w98 w.heap.size (fun k_ => some k_ ≠ (.slice Ao91 t474.length co91 : Value).ownBlock ∧ some k_ ≠ (.slice Ao101 y482.length co101 : Value).ownBlock) (.slice Ao96 t478.length co96) t478) := ⟨by rw [← hq_]; exact (rx (Kd.R_mono HO480.out (fun _ hk => ⟨hk.1.2, hk.2⟩)))⟩; have n2_ : Aside0 (Kd.R Kd.string 9 w98 w.heap.size (fun k_ => some k_ ≠ (.slice Ao91 t474.length co91 : Value).ownBlock ∧ some k_ ≠ (.slice Ao96 t478.length co96 : Value).ownBlock) (.slice Ao101 y482.length co101) y482) := ⟨by rw [← hq_]; exact (rx (Kd.R_mono HO484.out (fun _ hk => ⟨hk.1.2, hk.2⟩)))⟩; have n3_ : Aside0 (w98.heap[gb432]? = some (.cells #[.int .i64 a0_0, .int .i64 a0_1, .int .i64 a0_2, .int .i64 a0_3, .int .i64 a0_4, .int .i64 a0_5, .int .i64 a0_6] 52 (0, 0))) := ⟨by rw [← hq_]; exact (bx BK432.out)⟩; have n4_ : Aside0 (w98.heap[gb433]? = some (.cells #[.int .i64 0, .string ⟨#[]⟩, .string ⟨#[]⟩, .string ⟨#[]⟩, .string ⟨#[]⟩, .string ⟨#[]⟩] 50 (0, 0))) := ⟨by rw [← hq_]; exact (bx BK433.out)⟩; have n5_ : Aside0 (w98.heap[gb434]? = some (.cells #[.int .i64 (wrap64 (1 + (Int.tmod (wrap64 ((Int.tmod a0_0 7) + 7)) 7))), .string t477, .string ⟨#[]⟩, .string t481, .string ⟨#[]⟩, .string ⟨#[]⟩] 50 (0, 0))) := ⟨by rw [← hq_]; exact (bx BK434.out)⟩; have n6_ : Aside0 (Below w.heap.size w w98) := ⟨by rw [← hq_]; exact bq⟩; clear HO476 HO480 HO484 BK432 BK433 BK434 HB hq_; have HO476 := n0_; have HO480 := n1_; have HO484 := n2_; have BK432 := n3_; have BK433 := n4_; have BK434 := n5_; have HB := n6_; clear n0_ n1_ n2_ n3_ n4_ n5_ n6_; obtain ⟨hczq_0, hczq_1, hczq_2, hczq_3, hczq_4, hczq_5, hczq_6⟩ := cz7 BK432.out)); obtain ⟨hcz102_0, hcz102_1, hcz102_2, hcz102_3, hcz102_4, hcz102_5⟩ := cz6 BK434.out; obtain ⟨hfz102_0, hfz102_1, hfz102_2, hfz102_3, hfz102_4, hfz102_5⟩ := fz6 BK434.out; (try clear A77)) | ((with_reducible refine gate_dst (N := 96) rfl ?_); refine Kd.R_lit Kd.string _ 9 ?hg (N := 96) ?hd (xs := ([⟨#[]⟩, ⟨#[]⟩, ⟨#[117, 115]⟩] : List ByteArray)) (inner := [.string ⟨#[]⟩, .string ⟨#[]⟩, .string ⟨#[117, 115]⟩]) (ok := fun _ => True) (okp := fun _ => True) ?hr ?hp (fun _ hk => hk) trivial (Below.refl _ _) (Nat.le_refl _) (by simp) ?_; (case hd => rfl); (case hg => rfl); (case hr => first | (go_simp; done) | (go_simp; rfl)); (case hp => exact (Reps.one (show Kd.M Kd.string _ _ _ (⟨#[]⟩ : ByteArray) [.string ⟨#[]⟩] from rfl) (Reps.one (show Kd.M Kd.string _ _ _ (⟨#[]⟩ : ByteArray) [.string ⟨#[]⟩] from rfl) (Reps.one (show Kd.M Kd.string _ _ _ (⟨#[117, 115]⟩ : ByteArray) [.string ⟨#[117, 115]⟩] from rfl) (Reps.none _ _))))); intro v487 w103 ho104 hb hg_ hnew_; clear hg_ hnew_; (first | rw [← Ny486.out] at ho104 | (simp only [Int.reduceToNat] at ho104; rw [← Ny486.out] at ho104)); have n0_ := ak (Kd.R_elder' (rx ((Kd.R_mono (Kd.R_far (p := ⟨gb434, 4, none⟩) (Kd.R_types HO476.out BK434.out (by decide)) (fun _ hk => hk.2) (.string t485)) (fun _ h_ => h_.1)))) (Kd.R_base ho104) hb); have n1_ := ak (Kd.R_elder' (rx ((Kd.R_mono (Kd.R_far (p := ⟨gb434, 4, none⟩) (Kd.R_types HO480.out BK434.out (by decide)) (fun _ hk => hk.2) (.string t485)) (fun _ h_ => h_.1)))) (Kd.R_base ho104) hb); have n2_ := ak (Kd.R_elder' (rx ((Kd.R_mono (Kd.R_far (p := ⟨gb434, 4, none⟩) (Kd.R_types HO484.out BK434.out (by decide)) (fun _ hk => hk.2) (.string t485)) (fun _ h_ => h_.1)))) (Kd.R_base ho104) hb); have n3_ := ak (Kd.R_lower (Kd.R_new' (Kd.R_new' (Kd.R_new' ho104 (Kd.R_lt (rx ((Kd.R_mono (Kd.R_far (p := ⟨gb434, 4, none⟩) (Kd.R_types HO476.out BK434.out (by decide)) (fun _ hk => hk.2) (.string t485)) (fun _ h_ => h_.1)))))) (Kd.R_lt (rx ((Kd.R_mono (Kd.R_far (p := ⟨gb434, 4, none⟩) (Kd.R_types HO480.out BK434.out (by decide)) (fun _ hk => hk.2) (.string t485)) (fun _ h_ => h_.1)))))) (Kd.R_lt (rx ((Kd.R_mono (Kd.R_far (p := ⟨gb434, 4, none⟩) (Kd.R_types HO484.out BK434.out (by decide)) (fun _ hk => hk.2) (.string t485)) (fun _ h_ => h_.1)))))) (below_size bq)); have n4_ := ak (blk_below (g := gb432) (o := .cells #[.int .i64 a0_0, .int .i64 a0_1, .int .i64 a0_2, .int .i64 a0_3, .int .i64 a0_4, .int .i64 a0_5, .int .i64 a0_6] 52 (0, 0)) (bx (blk_far (bx BK432.out) NB432_434.out _)) hb); have n5_ := ak (blk_below (g := gb433) (o := .cells #[.int .i64 0, .string ⟨#[]⟩, .string ⟨#[]⟩, .string ⟨#[]⟩, .string ⟨#[]⟩, .string ⟨#[]⟩] 50 (0, 0)) (bx (blk_far (bx BK433.out) NB433_434.out _)) hb); have n6_ := ak (blk_below (g := gb434) (o := .cells #[.int .i64 (wrap64 (1 + (Int.tmod (wrap64 ((Int.tmod a0_0 7) + 7)) 7))), .string t477, .string ⟨#[]⟩, .string t481, .string t485, .string ⟨#[]⟩] 50 (0, 0)) (bx (blk_put (cs := #[.int .i64 (wrap64 (1 + (Int.tmod (wrap64 ((Int.tmod a0_0 7) + 7)) 7))), .string t477, .string ⟨#[]⟩, .string t481, .string ⟨#[]⟩, .string ⟨#[]⟩]) (bx BK434.out) 4 _ rfl)) hb); have n7_ := ak (below_step bq hb); clear HO476; clear HO480; clear HO484; clear BK432; clear BK433; clear BK434; clear HB; have HO476 := n0_; have HO480 := n1_; have HO484 := n2_; have HO488 := n3_; have BK432 := n4_; have BK433 := n5_; have BK434 := n6_; have HB := n7_; clear n0_ n1_ n2_ n3_ n4_ n5_ n6_ n7_; clear hb ho104; obtain ⟨hcz105_0, hcz105_1, hcz105_2, hcz105_3, hcz105_4, hcz105_5, hcz105_6⟩ := cz7 BK432.out; obtain ⟨hfz105_0, hfz105_1, hfz105_2, hfz105_3, hfz105_4, hfz105_5, hfz105_6⟩ := fz7 BK432.out; obtain ⟨Ao106, co106, eo106⟩ := Kd.R_slice HO488.out; subst eo106) | ((with_reducible refine gate_callee (f := 56) rfl ?_); refine goesL_ (some 99) rfl rfl Tryd.func56 (by kernel_rfl) rfl #[.slice Ao106 y486.length co106, .int .i64 a0_5] rfl mq ?_; (with_reducible refine (isoglossref06_Pick.calls _ _ y486 a0_5 t489 _ ?side1 ?side2 A78.out).mono ?_); (case side1 => repeat (first | exact (Kd.R_reads' HO488.out).2.2 | (with_reducible refine Kd.C_alloc ?_ _) | (with_reducible refine Kd.C_drewN ?_ _) | (with_reducible refine Kd.C_drew ?_))); (case side2 => exact (Kd.R_reads' HO488.out).2.1); rintro e w' ⟨rfl, ⟨nd, rfl⟩⟩; refine ⟨_, rfl, ?_⟩; (try (rw [drewN_self w103]; generalize hq_ : World.drewN w103 _ = w103; have n0_ : Aside0 (Kd.R Kd.string 9 w103 w.heap.size (fun k_ => some k_ ≠ (.slice Ao96 t478.length co96 : Value).ownBlock ∧ some k_ ≠ (.slice Ao101 y482.length co101 : Value).ownBlock ∧ some k_ ≠ (.slice Ao106 y486.length co106 : Value).ownBlock) (.slice Ao91 t474.length co91) t474) := ⟨by rw [← hq_]; exact (rx (Kd.R_mono HO476.out (fun _ hk => ⟨hk.1.1.2, ⟨hk.1.2, hk.2⟩⟩)))⟩; have n1_ : Aside0 (Kd.R Kd.string 9 w103 w.heap.size (fun k_ => some k_ ≠ (.slice Ao91 t474.length co91 : Value).ownBlock ∧ some k_ ≠ (.slice Ao101 y482.length co101 : Value).ownBlock ∧ some k_ ≠ (.slice Ao106 y486.length co106 : Value).ownBlock) (.slice Ao96 t478.length co96) t478) := ⟨by rw [← hq_]; exact (rx (Kd.R_mono HO480.out (fun _ hk => ⟨hk.1.1.2, ⟨hk.1.2, hk.2⟩⟩)))⟩; have n2_ : Aside0 (Kd.R Kd.string 9 w103 w.heap.size (fun k_ => some k_ ≠ (.slice Ao91 t474.length co91 : Value).ownBlock ∧ some k_ ≠ (.slice Ao96 t478.length co96 : Value).ownBlock ∧ some k_ ≠ (.slice Ao106 y486.length co106 : Value).ownBlock) (.slice Ao101 y482.length co101) y482) := ⟨by rw [← hq_]; exact (rx (Kd.R_mono HO484.out (fun _ hk => ⟨hk.1.1.2, ⟨hk.1.2, hk.2⟩⟩)))⟩; have n3_ : Aside0 (Kd.R Kd.string 9 w103 w.heap.size (fun k_ => some k_ ≠ (.slice Ao91 t474.length co91 : Value).ownBlock ∧ some k_ ≠ (.slice Ao96 t478.length co96 : Value).ownBlock ∧ some k_ ≠ (.slice Ao101 y482.length co101 : Value).ownBlock) (.slice Ao106 y486.length co106) y486) := ⟨by rw [← hq_]; exact (rx (Kd.R_mono HO488.out (fun _ hk => ⟨hk.1.1.2, ⟨hk.1.2, hk.2⟩⟩)))⟩; have n4_ : Aside0 (w103.heap[gb432]? = some (.cells #[.int .i64 a0_0, .int .i64 a0_1, .int .i64 a0_2, .int .i64 a0_3, .int .i64 a0_4, .int .i64 a0_5, .int .i64 a0_6] 52 (0, 0))) := ⟨by rw [← hq_]; exact (bx BK432.out)⟩; have n5_ : Aside0 (w103.heap[gb433]? = some (.cells #[.int .i64 0, .string ⟨#[]⟩, .string ⟨#[]⟩, .string ⟨#[]⟩, .string ⟨#[]⟩, .string ⟨#[]⟩] 50 (0, 0))) := ⟨by rw [← hq_]; exact (bx BK433.out)⟩; have n6_ : Aside0 (w103.heap[gb434]? = some (.cells #[.int .i64 (wrap64 (1 + (Int.tmod (wrap64 ((Int.tmod a0_0 7) + 7)) 7))), .string t477, .string ⟨#[]⟩, .string t481, .string t485, .string ⟨#[]⟩] 50 (0, 0))) := ⟨by rw [← hq_]; exact (bx BK434.out)⟩; have n7_ : Aside0 (Below w.heap.size w w103) := ⟨by rw [← hq_]; exact bq⟩; clear HO476 HO480 HO484 HO488 BK432 BK433 BK434 HB hq_; have HO476 := n0_; have HO480 := n1_; have HO484 := n2_; have HO488 := n3_; have BK432 := n4_; have BK433 := n5_; have BK434 := n6_; have HB := n7_; clear n0_ n1_ n2_ n3_ n4_ n5_ n6_ n7_; obtain ⟨hczq_0, hczq_1, hczq_2, hczq_3, hczq_4, hczq_5, hczq_6⟩ := cz7 BK432.out)); obtain ⟨hcz107_0, hcz107_1, hcz107_2, hcz107_3, hcz107_4, hcz107_5⟩ := cz6 BK434.out; obtain ⟨hfz107_0, hfz107_1, hfz107_2, hfz107_3, hfz107_4, hfz107_5⟩ := fz6 BK434.out; (try clear A78)) | ((with_reducible refine gate_callee (f := 63) rfl ?_); refine goesL_ (some 143) rfl rfl Tryd.func63 (by kernel_rfl) rfl #[.agg #[.int .i64 (wrap64 (1 + (Int.tmod (wrap64 ((Int.tmod a0_0 7) + 7)) 7))), .string t477, .string ⟨#[]⟩, .string t481, .string t485, .string t489], .int .i64 (Int.tmod (wrap64 ((Int.tmod a0_6 9) + 9)) 9)] rfl mq ?_; (with_reducible refine (isoglossref12_spoilt.calls k (wrap64 (1 + (Int.tmod (wrap64 ((Int.tmod a0_0 7) + 7)) 7))) t477 (⟨#[]⟩ : ByteArray) t481 t485 t489 (Int.tmod (wrap64 ((Int.tmod a0_6 9) + 9)) 9) t490 t491 t492 t493 t494 t495 _ A79.out).mono ?_); rintro e w108 ⟨rfl, hb⟩; refine ⟨_, rfl, ?_⟩; have n0_ := ak (Kd.R_below (rx ((Kd.R_mono (Kd.R_far (p := ⟨gb434, 5, none⟩) (Kd.R_types HO476.out BK434.out (by decide)) (fun _ hk => hk.2) (.string t489)) (fun _ h_ => h_.1)))) hb); have n1_ := ak (Kd.R_below (rx ((Kd.R_mono (Kd.R_far (p := ⟨gb434, 5, none⟩) (Kd.R_types HO480.out BK434.out (by decide)) (fun _ hk => hk.2) (.string t489)) (fun _ h_ => h_.1)))) hb); have n2_ := ak (Kd.R_below (rx ((Kd.R_mono (Kd.R_far (p := ⟨gb434, 5, none⟩) (Kd.R_types HO484.out BK434.out (by decide)) (fun _ hk => hk.2) (.string t489)) (fun _ h_ => h_.1)))) hb); have n3_ := ak (Kd.R_below (rx ((Kd.R_mono (Kd.R_far (p := ⟨gb434, 5, none⟩) (Kd.R_types HO488.out BK434.out (by decide)) (fun _ hk => hk.2) (.string t489)) (fun _ h_ => h_.1)))) hb); have n4_ := ak (blk_below (g := gb432) (o := .cells #[.int .i64 a0_0, .int .i64 a0_1, .int .i64 a0_2, .int .i64 a0_3, .int .i64 a0_4, .int .i64 a0_5, .int .i64 a0_6] 52 (0, 0)) (bx (blk_far (bx BK432.out) NB432_434.out _)) hb); have n5_ := ak (blk_below (g := gb433) (o := .cells #[.int .i64 0, .string ⟨#[]⟩, .string ⟨#[]⟩, .string ⟨#[]⟩, .string ⟨#[]⟩, .string ⟨#[]⟩] 50 (0, 0)) (bx (blk_far (bx BK433.out) NB433_434.out _)) hb); have n6_ := ak (blk_below (g := gb434) (o := .cells #[.int .i64 (wrap64 (1 + (Int.tmod (wrap64 ((Int.tmod a0_0 7) + 7)) 7))), .string t477, .string ⟨#[]⟩, .string t481, .string t485, .string t489] 50 (0, 0)) (bx (blk_put (cs := #[.int .i64 (wrap64 (1 + (Int.tmod (wrap64 ((Int.tmod a0_0 7) + 7)) 7))), .string t477, .string ⟨#[]⟩, .string t481, .string t485, .string ⟨#[]⟩]) (bx BK434.out) 5 _ rfl)) hb); have n7_ := ak (below_step bq hb); clear HO476; clear HO480; clear HO484; clear HO488; clear BK432; clear BK433; clear BK434; clear HB; have HO476 := n0_; have HO480 := n1_; have HO484 := n2_; have HO488 := n3_; have BK432 := n4_; have BK433 := n5_; have BK434 := n6_; have HB := n7_; clear n0_ n1_ n2_ n3_ n4_ n5_ n6_ n7_; (try clear hb); (try clear hb2); (try clear hk); (try clear hi); obtain ⟨hcz109_0, hcz109_1, hcz109_2, hcz109_3, hcz109_4, hcz109_5⟩ := cz6 BK433.out; obtain ⟨hfz109_0, hfz109_1, hfz109_2, hfz109_3, hfz109_4, hfz109_5⟩ := fz6 BK433.out; (try clear A79)))
    refine bodyPost_ret (results_cell_row rfl _ _ gb433 50 #[.int .i64 t490, .string t491, .string t492, .string t493, .string t494, .string t495] (0, 0) _ rfl (bx (blk_put (cs := #[.int .i64 t490, .string t491, .string t492, .string t493, .string t494, .string ⟨#[]⟩]) (bx (blk_put (cs := #[.int .i64 t490, .string t491, .string t492, .string t493, .string ⟨#[]⟩, .string ⟨#[]⟩]) (bx (blk_put (cs := #[.int .i64 t490, .string t491, .string t492, .string ⟨#[]⟩, .string ⟨#[]⟩, .string ⟨#[]⟩]) (bx (blk_put (cs := #[.int .i64 t490, .string t491, .string ⟨#[]⟩, .string ⟨#[]⟩, .string ⟨#[]⟩, .string ⟨#[]⟩]) (bx (blk_put (cs := #[.int .i64 t490, .string ⟨#[]⟩, .string ⟨#[]⟩, .string ⟨#[]⟩, .string ⟨#[]⟩, .string ⟨#[]⟩]) (bx (blk_put (cs := #[.int .i64 0, .string ⟨#[]⟩, .string ⟨#[]⟩, .string ⟨#[]⟩, .string ⟨#[]⟩, .string ⟨#[]⟩]) (bx BK433.out) 0 _ rfl)) 1 _ rfl)) 2 _ rfl)) 3 _ rfl)) 4 _ rfl)) 5 _ rfl)) Tryd.underlying50 rfl (by kernel_rfl)) rfl ?_
    exact ⟨by first | rfl | (simp [errW_none, errW_some] <;> rfl) | (simp [*, errW_none, errW_some] <;> rfl), bq⟩
   ·
    rw [if_neg c72] at H
    have c72b0 : ((wrap64 (1 + (Int.tmod (wrap64 ((Int.tmod a0_0 7) + 7)) 7))) == 3) = false := beq_eq_false_iff_ne.mpr c72
    have c72b1 : ((wrap64 (1 + (Int.tmod (wrap64 ((Int.tmod a0_0 7) + 7)) 7))) != 3) = true := bne_iff_ne.mpr c72
    by_cases c110 : (wrap64 (1 + (Int.tmod (wrap64 ((Int.tmod a0_0 7) + 7)) 7))) = 4
    ·
     rw [if_pos c110] at H
     have c110b0 : ((wrap64 (1 + (Int.tmod (wrap64 ((Int.tmod a0_0 7) + 7)) 7))) == 4) = true := beq_iff_eq.mpr c110
     have c110b1 : ((wrap64 (1 + (Int.tmod (wrap64 ((Int.tmod a0_0 7) + 7)) 7))) != 4) = false := bne_eq_false_iff_eq.mpr c110
     (try (have c110b2 : ((wrap64 (1 + (Int.tmod (wrap64 ((Int.tmod a0_0 7) + 7)) 7))) : Int).toNat = 4 := by rw [c110]; rfl))
     clear c110
     replace H := Option.bind_eq_some_iff.mp H
     obtain ⟨t496, A1110, H⟩ := H
     have A111 := ak A1110
     clear A1110
     replace H := Option.bind_eq_some_iff.mp H
     obtain ⟨t499, A1120, H⟩ := H
     have A112 := ak A1120
     clear A1120
     replace H := Option.bind_eq_some_iff.mp H
     obtain ⟨t500, A1130, H⟩ := H
     have A113 := ak A1130
     clear A1130
     replace H := Option.bind_eq_some_iff.mp H
     obtain ⟨t503, A1140, H⟩ := H
     have A114 := ak A1140
     clear A1140
     replace H := Option.bind_eq_some_iff.mp H
     obtain ⟨⟨t504, t505, t506, t507, t508, t509⟩, A1150, H⟩ := H
     replace H : (some (t504, t505, t506, t507, t508, t509)) = some (r1, r2, r3, r4, r5, r6) := H
     have A115 := ak A1150
     clear A1150
     simp only [Option.some.injEq, Prod.mk.injEq] at H
     obtain ⟨rfl, rfl, rfl, rfl, rfl, rfl⟩ := H
     go_enter Tryd.func34, Tryd.ntmps34
     try go_wp2_with (first | ((with_reducible refine gate_dst (N := 1) rfl ?_); refine box_event ?hg (N := 1) ?hd (cs := #[.int .i64 a0_0, .int .i64 a0_1, .int .i64 a0_2, .int .i64 a0_3, .int .i64 a0_4, .int .i64 a0_5, .int .i64 a0_6]) (t := 52) ?hr ?_; (case hd => rfl); (case hg => rfl); (case hr => first | (go_simp; done) | (go_simp; rfl)); intro gb432 hg w116 hbox hb; have n0_ := ak (below_step bq hb); have n1_ := ak (hbox); have n2_ := ak ((by rw [hg]; exact (below_size bq) : w.heap.size ≤ gb432)); have n3_ := ak ((by rw [hg]; exact (below_size bq) : w.heap.size ≤ gb432)); clear HB; have HB := n0_; have BK432 := n1_; have GW432 := n2_; have GE432 := n3_; clear n0_ n1_ n2_ n3_; clear hb hbox hg) | ((with_reducible refine gate_dst (N := 2) rfl ?_); refine box_event ?hg (N := 2) ?hd (cs := #[.int .i64 0, .string ⟨#[]⟩, .string ⟨#[]⟩, .string ⟨#[]⟩, .string ⟨#[]⟩, .string ⟨#[]⟩]) (t := 50) ?hr ?_; (case hd => rfl); (case hg => rfl); (case hr => first | (go_simp; done) | (go_simp; rfl)); intro gb433 hg w117 hbox hb; have n0_ := ak (blk_below (g := gb432) (bx BK432.out) hb); have n1_ := ak (below_step bq hb); have n2_ := ak (hbox); have n3_ := ak ((by rw [hg]; exact (below_size bq) : w.heap.size ≤ gb433)); have n4_ := ak ((by rw [hg]; exact (below_size bq) : w.heap.size ≤ gb433)); have n5_ := ak ((by rw [hg]; exact Nat.ne_of_lt (blk_lt (g := gb432) (bx BK432.out)) : gb432 ≠ gb433)); have n6_ := ak ((by rw [hg]; exact Nat.ne_of_gt (blk_lt (g := gb432) (bx BK432.out)) : gb433 ≠ gb432)); clear BK432; clear HB; have BK432 := n0_; have HB := n1_; have BK433 := n2_; have GW433 := n3_; have GE433 := n4_; have NB432_433 := n5_; have NB433_432 := n6_; clear n0_ n1_ n2_ n3_ n4_ n5_ n6_; clear hb hbox hg; have hnb118 := NB432_433.out; have hnc118 := NB433_432.out; obtain ⟨hcz119_0, hcz119_1, hcz119_2, hcz119_3, hcz119_4, hcz119_5, hcz119_6⟩ := cz7 BK432.out; obtain ⟨hfz119_0, hfz119_1, hfz119_2, hfz119_3, hfz119_4, hfz119_5, hfz119_6⟩ := fz7 BK432.out) | ((with_reducible refine gate_dst (N := 3) rfl ?_); refine box_event ?hg (N := 3) ?hd (cs := #[.int .i64 0, .string ⟨#[]⟩, .string ⟨#[]⟩, .string ⟨#[]⟩, .string ⟨#[]⟩, .string ⟨#[]⟩]) (t := 50) ?hr ?_; (case hd => rfl); (case hg => rfl); (case hr => first | (go_simp; done) | (go_simp; rfl)); intro gb434 hg w120 hbox hb; have n0_ := ak (blk_below (g := gb432) (bx BK432.out) hb); have n1_ := ak (blk_below (g := gb433) (bx BK433.out) hb); have n2_ := ak (below_step bq hb); have n3_ := ak (hbox); have n4_ := ak ((by rw [hg]; exact (below_size bq) : w.heap.size ≤ gb434)); have n5_ := ak ((by rw [hg]; exact (below_size bq) : w.heap.size ≤ gb434)); have n6_ := ak ((by rw [hg]; exact Nat.ne_of_lt (blk_lt (g := gb432) (bx BK432.out)) : gb432 ≠ gb434)); have n7_ := ak ((by rw [hg]; exact Nat.ne_of_gt (blk_lt (g := gb432) (bx BK432.out)) : gb434 ≠ gb432)); have n8_ := ak ((by rw [hg]; exact Nat.ne_of_lt (blk_lt (g := gb433) (bx BK433.out)) : gb433 ≠ gb434)); have n9_ := ak ((by rw [hg]; exact Nat.ne_of_gt (blk_lt (g := gb433) (bx BK433.out)) : gb434 ≠ gb433)); clear BK432; clear BK433; clear HB; have BK432 := n0_; have BK433 := n1_; have HB := n2_; have BK434 := n3_; have GW434 := n4_; have GE434 := n5_; have NB432_434 := n6_; have NB434_432 := n7_; have NB433_434 := n8_; have NB434_433 := n9_; clear n0_ n1_ n2_ n3_ n4_ n5_ n6_ n7_ n8_ n9_; clear hb hbox hg; have hnb121 := NB434_432.out; have hnc121 := NB432_434.out; have hnb122 := NB434_433.out; have hnc122 := NB433_434.out; obtain ⟨hcz123_0, hcz123_1, hcz123_2, hcz123_3, hcz123_4, hcz123_5⟩ := cz6 BK434.out; obtain ⟨hfz123_0, hfz123_1, hfz123_2, hfz123_3, hfz123_4, hfz123_5⟩ := fz6 BK434.out))
     have n0_ : Aside0 (((((((w120.setCell ⟨gb434, 0, none⟩ (.int .i64 (wrap64 (1 + (Int.tmod (wrap64 ((Int.tmod a0_0 7) + 7)) 7))))).setCell ⟨gb434, 1, none⟩ (.string ⟨#[]⟩)).setCell ⟨gb434, 2, none⟩ (.string ⟨#[]⟩)).setCell ⟨gb434, 3, none⟩ (.string ⟨#[]⟩)).setCell ⟨gb434, 4, none⟩ (.string ⟨#[]⟩)).setCell ⟨gb434, 5, none⟩ (.string ⟨#[]⟩)).heap[gb432]? = some (.cells #[.int .i64 a0_0, .int .i64 a0_1, .int .i64 a0_2, .int .i64 a0_3, .int .i64 a0_4, .int .i64 a0_5, .int .i64 a0_6] 52 (0, 0))) := ⟨(bx (blk_far (bx (blk_far (bx (blk_far (bx (blk_far (bx (blk_far (bx (blk_far (bx BK432.out) NB432_434.out _)) NB432_434.out _)) NB432_434.out _)) NB432_434.out _)) NB432_434.out _)) NB432_434.out _))⟩
     have n1_ : Aside0 (((((((w120.setCell ⟨gb434, 0, none⟩ (.int .i64 (wrap64 (1 + (Int.tmod (wrap64 ((Int.tmod a0_0 7) + 7)) 7))))).setCell ⟨gb434, 1, none⟩ (.string ⟨#[]⟩)).setCell ⟨gb434, 2, none⟩ (.string ⟨#[]⟩)).setCell ⟨gb434, 3, none⟩ (.string ⟨#[]⟩)).setCell ⟨gb434, 4, none⟩ (.string ⟨#[]⟩)).setCell ⟨gb434, 5, none⟩ (.string ⟨#[]⟩)).heap[gb433]? = some (.cells #[.int .i64 0, .string ⟨#[]⟩, .string ⟨#[]⟩, .string ⟨#[]⟩, .string ⟨#[]⟩, .string ⟨#[]⟩] 50 (0, 0))) := ⟨(bx (blk_far (bx (blk_far (bx (blk_far (bx (blk_far (bx (blk_far (bx (blk_far (bx BK433.out) NB433_434.out _)) NB433_434.out _)) NB433_434.out _)) NB433_434.out _)) NB433_434.out _)) NB433_434.out _))⟩
     have n2_ : Aside0 (((((((w120.setCell ⟨gb434, 0, none⟩ (.int .i64 (wrap64 (1 + (Int.tmod (wrap64 ((Int.tmod a0_0 7) + 7)) 7))))).setCell ⟨gb434, 1, none⟩ (.string ⟨#[]⟩)).setCell ⟨gb434, 2, none⟩ (.string ⟨#[]⟩)).setCell ⟨gb434, 3, none⟩ (.string ⟨#[]⟩)).setCell ⟨gb434, 4, none⟩ (.string ⟨#[]⟩)).setCell ⟨gb434, 5, none⟩ (.string ⟨#[]⟩)).heap[gb434]? = some (.cells #[.int .i64 (wrap64 (1 + (Int.tmod (wrap64 ((Int.tmod a0_0 7) + 7)) 7))), .string ⟨#[]⟩, .string ⟨#[]⟩, .string ⟨#[]⟩, .string ⟨#[]⟩, .string ⟨#[]⟩] 50 (0, 0))) := ⟨(bx (blk_put (cs := #[.int .i64 (wrap64 (1 + (Int.tmod (wrap64 ((Int.tmod a0_0 7) + 7)) 7))), .string ⟨#[]⟩, .string ⟨#[]⟩, .string ⟨#[]⟩, .string ⟨#[]⟩, .string ⟨#[]⟩]) (bx (blk_put (cs := #[.int .i64 (wrap64 (1 + (Int.tmod (wrap64 ((Int.tmod a0_0 7) + 7)) 7))), .string ⟨#[]⟩, .string ⟨#[]⟩, .string ⟨#[]⟩, .string ⟨#[]⟩, .string ⟨#[]⟩]) (bx (blk_put (cs := #[.int .i64 (wrap64 (1 + (Int.tmod (wrap64 ((Int.tmod a0_0 7) + 7)) 7))), .string ⟨#[]⟩, .string ⟨#[]⟩, .string ⟨#[]⟩, .string ⟨#[]⟩, .string ⟨#[]⟩]) (bx (blk_put (cs := #[.int .i64 (wrap64 (1 + (Int.tmod (wrap64 ((Int.tmod a0_0 7) + 7)) 7))), .string ⟨#[]⟩, .string ⟨#[]⟩, .string ⟨#[]⟩, .string ⟨#[]⟩, .string ⟨#[]⟩]) (bx (blk_put (cs := #[.int .i64 (wrap64 (1 + (Int.tmod (wrap64 ((Int.tmod a0_0 7) + 7)) 7))), .string ⟨#[]⟩, .string ⟨#[]⟩, .string ⟨#[]⟩, .string ⟨#[]⟩, .string ⟨#[]⟩]) (bx (blk_put (cs := #[.int .i64 0, .string ⟨#[]⟩, .string ⟨#[]⟩, .string ⟨#[]⟩, .string ⟨#[]⟩, .string ⟨#[]⟩]) (bx BK434.out) 0 _ rfl)) 1 _ rfl)) 2 _ rfl)) 3 _ rfl)) 4 _ rfl)) 5 _ rfl))⟩
     have n3_ : Aside0 (Below w.heap.size w ((((((w120.setCell ⟨gb434, 0, none⟩ (.int .i64 (wrap64 (1 + (Int.tmod (wrap64 ((Int.tmod a0_0 7) + 7)) 7))))).setCell ⟨gb434, 1, none⟩ (.string ⟨#[]⟩)).setCell ⟨gb434, 2, none⟩ (.string ⟨#[]⟩)).setCell ⟨gb434, 3, none⟩ (.string ⟨#[]⟩)).setCell ⟨gb434, 4, none⟩ (.string ⟨#[]⟩)).setCell ⟨gb434, 5, none⟩ (.string ⟨#[]⟩))) := ⟨bq⟩
     (try clear BK432)
     (try clear BK433)
     (try clear BK434)
     (try clear HB)
     generalize ((((((w120.setCell ⟨gb434, 0, none⟩ (.int .i64 (wrap64 (1 + (Int.tmod (wrap64 ((Int.tmod a0_0 7) + 7)) 7))))).setCell ⟨gb434, 1, none⟩ (.string ⟨#[]⟩)).setCell ⟨gb434, 2, none⟩ (.string ⟨#[]⟩)).setCell ⟨gb434, 3, none⟩ (.string ⟨#[]⟩)).setCell ⟨gb434, 4, none⟩ (.string ⟨#[]⟩)).setCell ⟨gb434, 5, none⟩ (.string ⟨#[]⟩)) = w124 at n0_ n1_ n2_ n3_ ⊢
     have BK432 := n0_
     have BK433 := n1_
     have BK434 := n2_
     have HB := n3_
     clear n0_ n1_ n2_ n3_
     have n0_ := ak (blk_drew BK432.out)
     have n1_ := ak (blk_drew BK433.out)
     have n2_ := ak (blk_drew BK434.out)
     have n3_ := ak (below_drew1 HB.out)
     clear BK432
     clear BK433
     clear BK434
     clear HB
     have BK432 := n0_
     have BK433 := n1_
     have BK434 := n2_
     have HB := n3_
     clear n0_ n1_ n2_ n3_
     refine start_ (n := 6) (S := fun w' => w'.cell? ⟨gb432, 0, none⟩ = some (.int .i64 a0_0) ∧ w'.cell? ⟨gb432, 1, none⟩ = some (.int .i64 a0_1) ∧ w'.cell? ⟨gb432, 2, none⟩ = some (.int .i64 a0_2) ∧ w'.cell? ⟨gb432, 3, none⟩ = some (.int .i64 a0_3) ∧ w'.cell? ⟨gb432, 4, none⟩ = some (.int .i64 a0_4) ∧ w'.cell? ⟨gb432, 5, none⟩ = some (.int .i64 a0_5) ∧ w'.cell? ⟨gb432, 6, none⟩ = some (.int .i64 a0_6)) (ds := []) #[false, false, false, false, false, false] (by kernel_rfl) rfl rfl ⟨(blk_cell BK432.out 0).trans rfl, (blk_cell BK432.out 1).trans rfl, (blk_cell BK432.out 2).trans rfl, (blk_cell BK432.out 3).trans rfl, (blk_cell BK432.out 4).trans rfl, (blk_cell BK432.out 5).trans rfl, (blk_cell BK432.out 6).trans rfl⟩ (fun hHeld => ?_)
     generalize w124.drew = w125 at BK432 BK433 BK434 HB hHeld ⊢
     refine pure_ (i := 1) (N := some 104) (v := ?_) (a' := ?_) (M 6 2) rfl rfl (by kernel_rfl) (fun _ _ _ h => h) (Or.inl ⟨by rfl, ?_⟩) ?_ ?_
     rotate_left
     ·
      intro w'
      go_simp
      with_reducible rfl
     rotate_left
     ·
      simp only [Act.put, pA, pB, pC, i64_w, i32_w]
      rfl
     refine take_ (i := 2) (N := some 105) (v := ?_) (a' := ?_) (M 6 6) rfl rfl (by kernel_rfl) (fun _ _ _ h => h) (Or.inl ⟨by rfl, ?_⟩) hHeld ?_ ?_
     rotate_left
     ·
      rintro w' ⟨s0, s1, s2, s3, s4, s5, s6⟩
      go_simp
      with_reducible rfl
     rotate_left
     ·
      simp only [Act.put, pA, pB, pC, i64_w, i32_w]
      rfl
     refine one_ (i := 0) (N := some 103) (M 6 7) rfl rfl (by kernel_rfl) (by decide) (fun K hK => ?_)
     refine goes_ Tryd.func59 (by kernel_rfl) rfl #[] (by rfl) rfl rfl mq ?_
     with_reducible refine (isoglossref12_scripts.calls  t496 _ A111.out).mono ?_
     rintro e w126 ⟨v497, rfl, ho0, hb⟩
     refine ⟨_, rfl, ?_⟩
     have n0_ := ak (Kd.R_lower ho0 (below_size bq))
     have n1_ := ak (blk_below (g := gb432) (bx BK432.out) hb)
     have n2_ := ak (blk_below (g := gb433) (bx BK433.out) hb)
     have n3_ := ak (blk_below (g := gb434) (bx BK434.out) hb)
     have n4_ := ak (below_step bq hb)
     clear BK432
     clear BK433
     clear BK434
     clear HB
     have HO498 := n0_
     have BK432 := n1_
     have BK433 := n2_
     have BK434 := n3_
     have HB := n4_
     clear n0_ n1_ n2_ n3_ n4_
     (try clear hb)
     (try clear hb2)
     (try clear hk)
     (try clear hi)
     (try clear ho0)
     obtain ⟨Ao127, co127, eo127⟩ := Kd.R_slice HO498.out
     (first | subst eo127 | (injection eo127 with f1_ f2_ f3_; have f4_ := f1_.symm; have f5_ := f3_.symm; clear f1_ f2_ f3_; subst f4_; subst f5_))
     refine hK.out _ _ ⟨(blk_cell BK432.out 0).trans rfl, (blk_cell BK432.out 1).trans rfl, (blk_cell BK432.out 2).trans rfl, (blk_cell BK432.out 3).trans rfl, (blk_cell BK432.out 4).trans rfl, (blk_cell BK432.out 5).trans rfl, (blk_cell BK432.out 6).trans rfl⟩ (fun hHeld => ?_)
     clear hK K
     refine norm_ (a' := ?_) ?_ ?_
     rotate_left
     ·
      show Act.put _ (some 103) _ = _
      simp only [Act.put, pA, pB, pC, i64_w, i32_w]
      rfl
     refine one_ (i := 3) (N := some 106) (M 6 15) rfl rfl (by kernel_rfl) (by decide) (fun K hK => ?_)
     refine goes_ Tryd.func56 (by kernel_rfl) rfl #[.slice Ao127 t496.length co127, .int .i64 a0_1] (by rfl) rfl rfl mq ?_
     with_reducible refine (isoglossref06_Pick.calls _ _ t496 a0_1 t499 _ ?side1 ?side2 A112.out).mono ?_
     (case side1 => repeat (first | exact (Kd.R_reads' HO498.out).2.2 | (with_reducible refine Kd.C_alloc ?_ _) | (with_reducible refine Kd.C_drewN ?_ _) | (with_reducible refine Kd.C_drew ?_)))
     (case side2 => exact (Kd.R_reads' HO498.out).2.1)
     rintro e w' ⟨rfl, ⟨nd, rfl⟩⟩
     refine ⟨_, rfl, ?_⟩
     refine hK.out _ _ ⟨(blk_cell BK432.out 0).trans rfl, (blk_cell BK432.out 1).trans rfl, (blk_cell BK432.out 2).trans rfl, (blk_cell BK432.out 3).trans rfl, (blk_cell BK432.out 4).trans rfl, (blk_cell BK432.out 5).trans rfl, (blk_cell BK432.out 6).trans rfl⟩ (fun hHeld => ?_)
     clear hK K
     refine norm_ (a' := ?_) ?_ ?_
     rotate_left
     ·
      show Act.put _ (some 106) _ = _
      simp only [Act.put, pA, pB, pC, i64_w, i32_w]
      rfl
     refine pure_ (i := 4) (N := some 107) (v := ?_) (a' := ?_) (M 6 31) rfl rfl (by kernel_rfl) (fun _ _ _ h => h) (Or.inl ⟨by rfl, ?_⟩) ?_ ?_
     rotate_left
     ·
      intro w'
      go_simp
      with_reducible rfl
     rotate_left
     ·
      simp only [Act.put, pA, pB, pC, i64_w, i32_w]
      rfl
     refine one_ (i := 5) (N := none) (M 6 63) rfl rfl (by kernel_rfl) (by decide) (fun K hK => ?_)
     have hs128 : w126.cell? ⟨gb434, 1, none⟩ = some (.string ⟨#[]⟩) := (blk_cell BK434.out 1).trans rfl
     have hfs128 := blk_frozen BK434.out 1
     have hns128_0 := NB432_434.out
     have hns128_1 := NB433_434.out
     have hms128_0 := NB434_432.out
     have hms128_1 := NB434_433.out
     refine skip_ (w1 := ?_) (by rfl) rfl ?_ ?_
     rotate_left
     ·
      go_simp
      rfl
     refine hK.out _ _ ⟨((cell_far (p := ⟨gb434, _, none⟩) NB432_434.out _).trans (hHeld.1)), ((cell_far (p := ⟨gb434, _, none⟩) NB432_434.out _).trans (hHeld.2.1)), ((cell_far (p := ⟨gb434, _, none⟩) NB432_434.out _).trans (hHeld.2.2.1)), ((cell_far (p := ⟨gb434, _, none⟩) NB432_434.out _).trans (hHeld.2.2.2.1)), ((cell_far (p := ⟨gb434, _, none⟩) NB432_434.out _).trans (hHeld.2.2.2.2.1)), ((cell_far (p := ⟨gb434, _, none⟩) NB432_434.out _).trans (hHeld.2.2.2.2.2.1)), ((cell_far (p := ⟨gb434, _, none⟩) NB432_434.out _).trans (hHeld.2.2.2.2.2.2))⟩ (fun hHeld => ?_)
     clear hK K
     refine done_ (by kernel_rfl) ?_
     try go_wp2
     have n0_ : Aside0 (Kd.R Kd.string 9 (w126.setCell ⟨gb434, 1, none⟩ (.string t499)) w.heap.size (fun _ => True) (.slice Ao127 t496.length co127) t496) := ⟨(rx (Kd.R_mono (Kd.R_far (p := ⟨gb434, 1, none⟩) (Kd.R_types HO498.out BK434.out (by decide)) (fun _ hk => hk.2) (.string t499)) (fun _ hk => trivial)))⟩
     have n1_ : Aside0 ((w126.setCell ⟨gb434, 1, none⟩ (.string t499)).heap[gb432]? = some (.cells #[.int .i64 a0_0, .int .i64 a0_1, .int .i64 a0_2, .int .i64 a0_3, .int .i64 a0_4, .int .i64 a0_5, .int .i64 a0_6] 52 (0, 0))) := ⟨(bx (blk_far (bx BK432.out) NB432_434.out _))⟩
     have n2_ : Aside0 ((w126.setCell ⟨gb434, 1, none⟩ (.string t499)).heap[gb433]? = some (.cells #[.int .i64 0, .string ⟨#[]⟩, .string ⟨#[]⟩, .string ⟨#[]⟩, .string ⟨#[]⟩, .string ⟨#[]⟩] 50 (0, 0))) := ⟨(bx (blk_far (bx BK433.out) NB433_434.out _))⟩
     have n3_ : Aside0 ((w126.setCell ⟨gb434, 1, none⟩ (.string t499)).heap[gb434]? = some (.cells #[.int .i64 (wrap64 (1 + (Int.tmod (wrap64 ((Int.tmod a0_0 7) + 7)) 7))), .string t499, .string ⟨#[]⟩, .string ⟨#[]⟩, .string ⟨#[]⟩, .string ⟨#[]⟩] 50 (0, 0))) := ⟨(bx (blk_put (cs := #[.int .i64 (wrap64 (1 + (Int.tmod (wrap64 ((Int.tmod a0_0 7) + 7)) 7))), .string ⟨#[]⟩, .string ⟨#[]⟩, .string ⟨#[]⟩, .string ⟨#[]⟩, .string ⟨#[]⟩]) (bx BK434.out) 1 _ rfl))⟩
     have n4_ : Aside0 (Below w.heap.size w (w126.setCell ⟨gb434, 1, none⟩ (.string t499))) := ⟨bq⟩
     (try clear HO498)
     (try clear BK432)
     (try clear BK433)
     (try clear BK434)
     (try clear HB)
     (try rw [setN])
     generalize (w126.setCell ⟨gb434, 1, none⟩ (.string t499)) = w129 at n0_ n1_ n2_ n3_ n4_ ⊢
     have HO498 := n0_
     have BK432 := n1_
     have BK433 := n2_
     have BK434 := n3_
     have HB := n4_
     clear n0_ n1_ n2_ n3_ n4_
     (try (rw [drewN_self w129]; generalize hq_ : World.drewN w129 _ = w129; have n0_ : Aside0 (Kd.R Kd.string 9 w129 w.heap.size (fun _ => True) (.slice Ao127 t496.length co127) t496) := ⟨by rw [← hq_]; exact (rx HO498.out)⟩; have n1_ : Aside0 (w129.heap[gb432]? = some (.cells #[.int .i64 a0_0, .int .i64 a0_1, .int .i64 a0_2, .int .i64 a0_3, .int .i64 a0_4, .int .i64 a0_5, .int .i64 a0_6] 52 (0, 0))) := ⟨by rw [← hq_]; exact (bx BK432.out)⟩; have n2_ : Aside0 (w129.heap[gb433]? = some (.cells #[.int .i64 0, .string ⟨#[]⟩, .string ⟨#[]⟩, .string ⟨#[]⟩, .string ⟨#[]⟩, .string ⟨#[]⟩] 50 (0, 0))) := ⟨by rw [← hq_]; exact (bx BK433.out)⟩; have n3_ : Aside0 (w129.heap[gb434]? = some (.cells #[.int .i64 (wrap64 (1 + (Int.tmod (wrap64 ((Int.tmod a0_0 7) + 7)) 7))), .string t499, .string ⟨#[]⟩, .string ⟨#[]⟩, .string ⟨#[]⟩, .string ⟨#[]⟩] 50 (0, 0))) := ⟨by rw [← hq_]; exact (bx BK434.out)⟩; have n4_ : Aside0 (Below w.heap.size w w129) := ⟨by rw [← hq_]; exact bq⟩; clear HO498 BK432 BK433 BK434 HB hq_; have HO498 := n0_; have BK432 := n1_; have BK433 := n2_; have BK434 := n3_; have HB := n4_; clear n0_ n1_ n2_ n3_ n4_; obtain ⟨hczq_0, hczq_1, hczq_2, hczq_3, hczq_4, hczq_5, hczq_6⟩ := cz7 BK432.out))
     have n0_ := ak (Kd.R_drew HO498.out)
     have n1_ := ak (blk_drew BK432.out)
     have n2_ := ak (blk_drew BK433.out)
     have n3_ := ak (blk_drew BK434.out)
     have n4_ := ak (below_drew1 HB.out)
     clear HO498
     clear BK432
     clear BK433
     clear BK434
     clear HB
     have HO498 := n0_
     have BK432 := n1_
     have BK433 := n2_
     have BK434 := n3_
     have HB := n4_
     clear n0_ n1_ n2_ n3_ n4_
     refine start_ (n := 6) (S := fun w' => w'.cell? ⟨gb432, 0, none⟩ = some (.int .i64 a0_0) ∧ w'.cell? ⟨gb432, 1, none⟩ = some (.int .i64 a0_1) ∧ w'.cell? ⟨gb432, 2, none⟩ = some (.int .i64 a0_2) ∧ w'.cell? ⟨gb432, 3, none⟩ = some (.int .i64 a0_3) ∧ w'.cell? ⟨gb432, 4, none⟩ = some (.int .i64 a0_4) ∧ w'.cell? ⟨gb432, 5, none⟩ = some (.int .i64 a0_5) ∧ w'.cell? ⟨gb432, 6, none⟩ = some (.int .i64 a0_6)) (ds := []) #[false, false, false, false, false, false] (by kernel_rfl) rfl rfl ⟨(blk_cell BK432.out 0).trans rfl, (blk_cell BK432.out 1).trans rfl, (blk_cell BK432.out 2).trans rfl, (blk_cell BK432.out 3).trans rfl, (blk_cell BK432.out 4).trans rfl, (blk_cell BK432.out 5).trans rfl, (blk_cell BK432.out 6).trans rfl⟩ (fun hHeld => ?_)
     generalize w129.drew = w130 at HO498 BK432 BK433 BK434 HB hHeld ⊢
     refine pure_ (i := 1) (N := some 109) (v := ?_) (a' := ?_) (M 6 2) rfl rfl (by kernel_rfl) (fun _ _ _ h => h) (Or.inl ⟨by rfl, ?_⟩) ?_ ?_
     rotate_left
     ·
      intro w'
      go_simp
      with_reducible rfl
     rotate_left
     ·
      simp only [Act.put, pA, pB, pC, i64_w, i32_w]
      rfl
     refine take_ (i := 2) (N := some 110) (v := ?_) (a' := ?_) (M 6 6) rfl rfl (by kernel_rfl) (fun _ _ _ h => h) (Or.inl ⟨by rfl, ?_⟩) hHeld ?_ ?_
     rotate_left
     ·
      rintro w' ⟨s0, s1, s2, s3, s4, s5, s6⟩
      go_simp
      with_reducible rfl
     rotate_left
     ·
      simp only [Act.put, pA, pB, pC, i64_w, i32_w]
      rfl
     refine one_ (i := 0) (N := some 108) (M 6 7) rfl rfl (by kernel_rfl) (by decide) (fun K hK => ?_)
     refine goes_ Tryd.func60 (by kernel_rfl) rfl #[] (by rfl) rfl rfl mq ?_
     with_reducible refine (isoglossref12_toScripts.calls  t500 _ A113.out).mono ?_
     rintro e w131 ⟨v501, rfl, ho0, hb⟩
     refine ⟨_, rfl, ?_⟩
     have n0_ := ak (Kd.R_elder' (rx HO498.out) (Kd.R_base ho0) hb)
     have n1_ := ak (Kd.R_lower (Kd.R_new' ho0 (Kd.R_lt (rx HO498.out))) (below_size bq))
     have n2_ := ak (blk_below (g := gb432) (bx BK432.out) hb)
     have n3_ := ak (blk_below (g := gb433) (bx BK433.out) hb)
     have n4_ := ak (blk_below (g := gb434) (bx BK434.out) hb)
     have n5_ := ak (below_step bq hb)
     clear HO498
     clear BK432
     clear BK433
     clear BK434
     clear HB
     have HO498 := n0_
     have HO502 := n1_
     have BK432 := n2_
     have BK433 := n3_
     have BK434 := n4_
     have HB := n5_
     clear n0_ n1_ n2_ n3_ n4_ n5_
     (try clear hb)
     (try clear hb2)
     (try clear hk)
     (try clear hi)
     (try clear ho0)
     obtain ⟨Ao132, co132, eo132⟩ := Kd.R_slice HO502.out
     (first | subst eo132 | (injection eo132 with f1_ f2_ f3_; have f4_ := f1_.symm; have f5_ := f3_.symm; clear f1_ f2_ f3_; subst f4_; subst f5_))
     refine hK.out _ _ ⟨(blk_cell BK432.out 0).trans rfl, (blk_cell BK432.out 1).trans rfl, (blk_cell BK432.out 2).trans rfl, (blk_cell BK432.out 3).trans rfl, (blk_cell BK432.out 4).trans rfl, (blk_cell BK432.out 5).trans rfl, (blk_cell BK432.out 6).trans rfl⟩ (fun hHeld => ?_)
     clear hK K
     refine norm_ (a' := ?_) ?_ ?_
     rotate_left
     ·
      show Act.put _ (some 108) _ = _
      simp only [Act.put, pA, pB, pC, i64_w, i32_w]
      rfl
     refine one_ (i := 3) (N := some 111) (M 6 15) rfl rfl (by kernel_rfl) (by decide) (fun K hK => ?_)
     refine goes_ Tryd.func56 (by kernel_rfl) rfl #[.slice Ao132 t500.length co132, .int .i64 a0_4] (by rfl) rfl rfl mq ?_
     with_reducible refine (isoglossref06_Pick.calls _ _ t500 a0_4 t503 _ ?side1 ?side2 A114.out).mono ?_
     (case side1 => repeat (first | exact (Kd.R_reads' HO502.out).2.2 | (with_reducible refine Kd.C_alloc ?_ _) | (with_reducible refine Kd.C_drewN ?_ _) | (with_reducible refine Kd.C_drew ?_)))
     (case side2 => exact (Kd.R_reads' HO502.out).2.1)
     rintro e w' ⟨rfl, ⟨nd, rfl⟩⟩
     refine ⟨_, rfl, ?_⟩
     refine hK.out _ _ ⟨(blk_cell BK432.out 0).trans rfl, (blk_cell BK432.out 1).trans rfl, (blk_cell BK432.out 2).trans rfl, (blk_cell BK432.out 3).trans rfl, (blk_cell BK432.out 4).trans rfl, (blk_cell BK432.out 5).trans rfl, (blk_cell BK432.out 6).trans rfl⟩ (fun hHeld => ?_)
     clear hK K
     refine norm_ (a' := ?_) ?_ ?_
     rotate_left
     ·
      show Act.put _ (some 111) _ = _
      simp only [Act.put, pA, pB, pC, i64_w, i32_w]
      rfl
     refine pure_ (i := 4) (N := some 112) (v := ?_) (a' := ?_) (M 6 31) rfl rfl (by kernel_rfl) (fun _ _ _ h => h) (Or.inl ⟨by rfl, ?_⟩) ?_ ?_
     rotate_left
     ·
      intro w'
      go_simp
      with_reducible rfl
     rotate_left
     ·
      simp only [Act.put, pA, pB, pC, i64_w, i32_w]
      rfl
     refine one_ (i := 5) (N := none) (M 6 63) rfl rfl (by kernel_rfl) (by decide) (fun K hK => ?_)
     have hs133 : w131.cell? ⟨gb434, 4, none⟩ = some (.string ⟨#[]⟩) := (blk_cell BK434.out 4).trans rfl
     have hfs133 := blk_frozen BK434.out 4
     have hns133_0 := NB432_434.out
     have hns133_1 := NB433_434.out
     have hms133_0 := NB434_432.out
     have hms133_1 := NB434_433.out
     refine skip_ (w1 := ?_) (by rfl) rfl ?_ ?_
     rotate_left
     ·
      go_simp
      rfl
     refine hK.out _ _ ⟨((cell_far (p := ⟨gb434, _, none⟩) NB432_434.out _).trans (hHeld.1)), ((cell_far (p := ⟨gb434, _, none⟩) NB432_434.out _).trans (hHeld.2.1)), ((cell_far (p := ⟨gb434, _, none⟩) NB432_434.out _).trans (hHeld.2.2.1)), ((cell_far (p := ⟨gb434, _, none⟩) NB432_434.out _).trans (hHeld.2.2.2.1)), ((cell_far (p := ⟨gb434, _, none⟩) NB432_434.out _).trans (hHeld.2.2.2.2.1)), ((cell_far (p := ⟨gb434, _, none⟩) NB432_434.out _).trans (hHeld.2.2.2.2.2.1)), ((cell_far (p := ⟨gb434, _, none⟩) NB432_434.out _).trans (hHeld.2.2.2.2.2.2))⟩ (fun hHeld => ?_)
     clear hK K
     refine done_ (by kernel_rfl) ?_
     obtain ⟨hcz134_0, hcz134_1, hcz134_2, hcz134_3, hcz134_4, hcz134_5⟩ := cz6 BK434.out
     obtain ⟨hfz134_0, hfz134_1, hfz134_2, hfz134_3, hfz134_4, hfz134_5⟩ := fz6 BK434.out
     obtain ⟨hcz135_0, hcz135_1, hcz135_2, hcz135_3, hcz135_4, hcz135_5, hcz135_6⟩ := cz7 BK432.out
     obtain ⟨hfz135_0, hfz135_1, hfz135_2, hfz135_3, hfz135_4, hfz135_5, hfz135_6⟩ := fz7 BK432.out
     try go_wp2_with (first | ((with_reducible refine gate_callee (f := 63) rfl ?_); refine goesL_ (some 143) rfl rfl Tryd.func63 (by kernel_rfl) rfl #[.agg #[.int .i64 (wrap64 (1 + (Int.tmod (wrap64 ((Int.tmod a0_0 7) + 7)) 7))), .string t499, .string ⟨#[]⟩, .string ⟨#[]⟩, .string t503, .string ⟨#[]⟩], .int .i64 (Int.tmod (wrap64 ((Int.tmod a0_6 9) + 9)) 9)] rfl mq ?_; (with_reducible refine (isoglossref12_spoilt.calls k (wrap64 (1 + (Int.tmod (wrap64 ((Int.tmod a0_0 7) + 7)) 7))) t499 (⟨#[]⟩ : ByteArray) (⟨#[]⟩ : ByteArray) t503 (⟨#[]⟩ : ByteArray) (Int.tmod (wrap64 ((Int.tmod a0_6 9) + 9)) 9) t504 t505 t506 t507 t508 t509 _ A115.out).mono ?_); rintro e w136 ⟨rfl, hb⟩; refine ⟨_, rfl, ?_⟩; have n0_ := ak (Kd.R_below (rx ((Kd.R_mono (Kd.R_far (p := ⟨gb434, 4, none⟩) (Kd.R_types HO498.out BK434.out (by decide)) (fun _ hk => hk.2) (.string t503)) (fun _ h_ => h_.1)))) hb); have n1_ := ak (Kd.R_below (rx ((Kd.R_mono (Kd.R_far (p := ⟨gb434, 4, none⟩) (Kd.R_types HO502.out BK434.out (by decide)) (fun _ hk => hk.2) (.string t503)) (fun _ h_ => h_.1)))) hb); have n2_ := ak (blk_below (g := gb432) (o := .cells #[.int .i64 a0_0, .int .i64 a0_1, .int .i64 a0_2, .int .i64 a0_3, .int .i64 a0_4, .int .i64 a0_5, .int .i64 a0_6] 52 (0, 0)) (bx (blk_far (bx BK432.out) NB432_434.out _)) hb); have n3_ := ak (blk_below (g := gb433) (o := .cells #[.int .i64 0, .string ⟨#[]⟩, .string ⟨#[]⟩, .string ⟨#[]⟩, .string ⟨#[]⟩, .string ⟨#[]⟩] 50 (0, 0)) (bx (blk_far (bx BK433.out) NB433_434.out _)) hb); have n4_ := ak (blk_below (g := gb434) (o := .cells #[.int .i64 (wrap64 (1 + (Int.tmod (wrap64 ((Int.tmod a0_0 7) + 7)) 7))), .string t499, .string ⟨#[]⟩, .string ⟨#[]⟩, .string t503, .string ⟨#[]⟩] 50 (0, 0)) (bx (blk_put (cs := #[.int .i64 (wrap64 (1 + (Int.tmod (wrap64 ((Int.tmod a0_0 7) + 7)) 7))), .string t499, .string ⟨#[]⟩, .string ⟨#[]⟩, .string ⟨#[]⟩, .string ⟨#[]⟩]) (bx BK434.out) 4 _ rfl)) hb); have n5_ := ak (below_step bq hb); clear HO498; clear HO502; clear BK432; clear BK433; clear BK434; clear HB; have HO498 := n0_; have HO502 := n1_; have BK432 := n2_; have BK433 := n3_; have BK434 := n4_; have HB := n5_; clear n0_ n1_ n2_ n3_ n4_ n5_; (try clear hb); (try clear hb2); (try clear hk); (try clear hi); obtain ⟨hcz137_0, hcz137_1, hcz137_2, hcz137_3, hcz137_4, hcz137_5⟩ := cz6 BK433.out; obtain ⟨hfz137_0, hfz137_1, hfz137_2, hfz137_3, hfz137_4, hfz137_5⟩ := fz6 BK433.out; (try clear A115)))
     refine bodyPost_ret (results_cell_row rfl _ _ gb433 50 #[.int .i64 t504, .string t505, .string t506, .string t507, .string t508, .string t509] (0, 0) _ rfl (bx (blk_put (cs := #[.int .i64 t504, .string t505, .string t506, .string t507, .string t508, .string ⟨#[]⟩]) (bx (blk_put (cs := #[.int .i64 t504, .string t505, .string t506, .string t507, .string ⟨#[]⟩, .string ⟨#[]⟩]) (bx (blk_put (cs := #[.int .i64 t504, .string t505, .string t506, .string ⟨#[]⟩, .string ⟨#[]⟩, .string ⟨#[]⟩]) (bx (blk_put (cs := #[.int .i64 t504, .string t505, .string ⟨#[]⟩, .string ⟨#[]⟩, .string ⟨#[]⟩, .string ⟨#[]⟩]) (bx (blk_put (cs := #[.int .i64 t504, .string ⟨#[]⟩, .string ⟨#[]⟩, .string ⟨#[]⟩, .string ⟨#[]⟩, .string ⟨#[]⟩]) (bx (blk_put (cs := #[.int .i64 0, .string ⟨#[]⟩, .string ⟨#[]⟩, .string ⟨#[]⟩, .string ⟨#[]⟩, .string ⟨#[]⟩]) (bx BK433.out) 0 _ rfl)) 1 _ rfl)) 2 _ rfl)) 3 _ rfl)) 4 _ rfl)) 5 _ rfl)) Tryd.underlying50 rfl (by kernel_rfl)) rfl ?_
     exact ⟨by first | rfl | (simp [errW_none, errW_some] <;> rfl) | (simp [*, errW_none, errW_some] <;> rfl), bq⟩
    ·
     rw [if_neg c110] at H
     have c110b0 : ((wrap64 (1 + (Int.tmod (wrap64 ((Int.tmod a0_0 7) + 7)) 7))) == 4) = false := beq_eq_false_iff_ne.mpr c110
     have c110b1 : ((wrap64 (1 + (Int.tmod (wrap64 ((Int.tmod a0_0 7) + 7)) 7))) != 4) = true := bne_iff_ne.mpr c110
     by_cases c138 : (wrap64 (1 + (Int.tmod (wrap64 ((Int.tmod a0_0 7) + 7)) 7))) = 5
     ·
      rw [if_pos c138] at H
      have c138b0 : ((wrap64 (1 + (Int.tmod (wrap64 ((Int.tmod a0_0 7) + 7)) 7))) == 5) = true := beq_iff_eq.mpr c138
      have c138b1 : ((wrap64 (1 + (Int.tmod (wrap64 ((Int.tmod a0_0 7) + 7)) 7))) != 5) = false := bne_eq_false_iff_eq.mpr c138
      (try (have c138b2 : ((wrap64 (1 + (Int.tmod (wrap64 ((Int.tmod a0_0 7) + 7)) 7))) : Int).toNat = 5 := by rw [c138]; rfl))
      clear c138
      replace H := Option.bind_eq_some_iff.mp H
      obtain ⟨t510, A1390, H⟩ := H
      have A139 := ak A1390
      clear A1390
      replace H := Option.bind_eq_some_iff.mp H
      obtain ⟨t513, A1400, H⟩ := H
      have A140 := ak A1400
      clear A1400
      replace H := Option.bind_eq_some_iff.mp H
      obtain ⟨t514, A1410, H⟩ := H
      have A141 := ak A1410
      clear A1410
      replace H := Option.bind_eq_some_iff.mp H
      obtain ⟨t517, A1420, H⟩ := H
      have A142 := ak A1420
      clear A1420
      replace H := Option.bind_eq_some_iff.mp H
      obtain ⟨⟨t518, t519, t520, t521, t522, t523⟩, A1430, H⟩ := H
      replace H : (some (t518, t519, t520, t521, t522, t523)) = some (r1, r2, r3, r4, r5, r6) := H
      have A143 := ak A1430
      clear A1430
      simp only [Option.some.injEq, Prod.mk.injEq] at H
      obtain ⟨rfl, rfl, rfl, rfl, rfl, rfl⟩ := H
      go_enter Tryd.func34, Tryd.ntmps34
      try go_wp2_with (first | ((with_reducible refine gate_dst (N := 1) rfl ?_); refine box_event ?hg (N := 1) ?hd (cs := #[.int .i64 a0_0, .int .i64 a0_1, .int .i64 a0_2, .int .i64 a0_3, .int .i64 a0_4, .int .i64 a0_5, .int .i64 a0_6]) (t := 52) ?hr ?_; (case hd => rfl); (case hg => rfl); (case hr => first | (go_simp; done) | (go_simp; rfl)); intro gb432 hg w144 hbox hb; have n0_ := ak (below_step bq hb); have n1_ := ak (hbox); have n2_ := ak ((by rw [hg]; exact (below_size bq) : w.heap.size ≤ gb432)); have n3_ := ak ((by rw [hg]; exact (below_size bq) : w.heap.size ≤ gb432)); clear HB; have HB := n0_; have BK432 := n1_; have GW432 := n2_; have GE432 := n3_; clear n0_ n1_ n2_ n3_; clear hb hbox hg) | ((with_reducible refine gate_dst (N := 2) rfl ?_); refine box_event ?hg (N := 2) ?hd (cs := #[.int .i64 0, .string ⟨#[]⟩, .string ⟨#[]⟩, .string ⟨#[]⟩, .string ⟨#[]⟩, .string ⟨#[]⟩]) (t := 50) ?hr ?_; (case hd => rfl); (case hg => rfl); (case hr => first | (go_simp; done) | (go_simp; rfl)); intro gb433 hg w145 hbox hb; have n0_ := ak (blk_below (g := gb432) (bx BK432.out) hb); have n1_ := ak (below_step bq hb); have n2_ := ak (hbox); have n3_ := ak ((by rw [hg]; exact (below_size bq) : w.heap.size ≤ gb433)); have n4_ := ak ((by rw [hg]; exact (below_size bq) : w.heap.size ≤ gb433)); have n5_ := ak ((by rw [hg]; exact Nat.ne_of_lt (blk_lt (g := gb432) (bx BK432.out)) : gb432 ≠ gb433)); have n6_ := ak ((by rw [hg]; exact Nat.ne_of_gt (blk_lt (g := gb432) (bx BK432.out)) : gb433 ≠ gb432)); clear BK432; clear HB; have BK432 := n0_; have HB := n1_; have BK433 := n2_; have GW433 := n3_; have GE433 := n4_; have NB432_433 := n5_; have NB433_432 := n6_; clear n0_ n1_ n2_ n3_ n4_ n5_ n6_; clear hb hbox hg; have hnb146 := NB432_433.out; have hnc146 := NB433_432.out; obtain ⟨hcz147_0, hcz147_1, hcz147_2, hcz147_3, hcz147_4, hcz147_5, hcz147_6⟩ := cz7 BK432.out; obtain ⟨hfz147_0, hfz147_1, hfz147_2, hfz147_3, hfz147_4, hfz147_5, hfz147_6⟩ := fz7 BK432.out) | ((with_reducible refine gate_dst (N := 3) rfl ?_); refine box_event ?hg (N := 3) ?hd (cs := #[.int .i64 0, .string ⟨#[]⟩, .string ⟨#[]⟩, .string ⟨#[]⟩, .string ⟨#[]⟩, .string ⟨#[]⟩]) (t := 50) ?hr ?_; (case hd => rfl); (case hg => rfl); (case hr => first | (go_simp; done) | (go_simp; rfl)); intro gb434 hg w148 hbox hb; have n0_ := ak (blk_below (g := gb432) (bx BK432.out) hb); have n1_ := ak (blk_below (g := gb433) (bx BK433.out) hb); have n2_ := ak (below_step bq hb); have n3_ := ak (hbox); have n4_ := ak ((by rw [hg]; exact (below_size bq) : w.heap.size ≤ gb434)); have n5_ := ak ((by rw [hg]; exact (below_size bq) : w.heap.size ≤ gb434)); have n6_ := ak ((by rw [hg]; exact Nat.ne_of_lt (blk_lt (g := gb432) (bx BK432.out)) : gb432 ≠ gb434)); have n7_ := ak ((by rw [hg]; exact Nat.ne_of_gt (blk_lt (g := gb432) (bx BK432.out)) : gb434 ≠ gb432)); have n8_ := ak ((by rw [hg]; exact Nat.ne_of_lt (blk_lt (g := gb433) (bx BK433.out)) : gb433 ≠ gb434)); have n9_ := ak ((by rw [hg]; exact Nat.ne_of_gt (blk_lt (g := gb433) (bx BK433.out)) : gb434 ≠ gb433)); clear BK432; clear BK433; clear HB; have BK432 := n0_; have BK433 := n1_; have HB := n2_; have BK434 := n3_; have GW434 := n4_; have GE434 := n5_; have NB432_434 := n6_; have NB434_432 := n7_; have NB433_434 := n8_; have NB434_433 := n9_; clear n0_ n1_ n2_ n3_ n4_ n5_ n6_ n7_ n8_ n9_; clear hb hbox hg; have hnb149 := NB434_432.out; have hnc149 := NB432_434.out; have hnb150 := NB434_433.out; have hnc150 := NB433_434.out; obtain ⟨hcz151_0, hcz151_1, hcz151_2, hcz151_3, hcz151_4, hcz151_5⟩ := cz6 BK434.out; obtain ⟨hfz151_0, hfz151_1, hfz151_2, hfz151_3, hfz151_4, hfz151_5⟩ := fz6 BK434.out))
      have n0_ : Aside0 (((((((w148.setCell ⟨gb434, 0, none⟩ (.int .i64 (wrap64 (1 + (Int.tmod (wrap64 ((Int.tmod a0_0 7) + 7)) 7))))).setCell ⟨gb434, 1, none⟩ (.string ⟨#[]⟩)).setCell ⟨gb434, 2, none⟩ (.string ⟨#[]⟩)).setCell ⟨gb434, 3, none⟩ (.string ⟨#[]⟩)).setCell ⟨gb434, 4, none⟩ (.string ⟨#[]⟩)).setCell ⟨gb434, 5, none⟩ (.string ⟨#[]⟩)).heap[gb432]? = some (.cells #[.int .i64 a0_0, .int .i64 a0_1, .int .i64 a0_2, .int .i64 a0_3, .int .i64 a0_4, .int .i64 a0_5, .int .i64 a0_6] 52 (0, 0))) := ⟨(bx (blk_far (bx (blk_far (bx (blk_far (bx (blk_far (bx (blk_far (bx (blk_far (bx BK432.out) NB432_434.out _)) NB432_434.out _)) NB432_434.out _)) NB432_434.out _)) NB432_434.out _)) NB432_434.out _))⟩
      have n1_ : Aside0 (((((((w148.setCell ⟨gb434, 0, none⟩ (.int .i64 (wrap64 (1 + (Int.tmod (wrap64 ((Int.tmod a0_0 7) + 7)) 7))))).setCell ⟨gb434, 1, none⟩ (.string ⟨#[]⟩)).setCell ⟨gb434, 2, none⟩ (.string ⟨#[]⟩)).setCell ⟨gb434, 3, none⟩ (.string ⟨#[]⟩)).setCell ⟨gb434, 4, none⟩ (.string ⟨#[]⟩)).setCell ⟨gb434, 5, none⟩ (.string ⟨#[]⟩)).heap[gb433]? = some (.cells #[.int .i64 0, .string ⟨#[]⟩, .string ⟨#[]⟩, .string ⟨#[]⟩, .string ⟨#[]⟩, .string ⟨#[]⟩] 50 (0, 0))) := ⟨(bx (blk_far (bx (blk_far (bx (blk_far (bx (blk_far (bx (blk_far (bx (blk_far (bx BK433.out) NB433_434.out _)) NB433_434.out _)) NB433_434.out _)) NB433_434.out _)) NB433_434.out _)) NB433_434.out _))⟩
      have n2_ : Aside0 (((((((w148.setCell ⟨gb434, 0, none⟩ (.int .i64 (wrap64 (1 + (Int.tmod (wrap64 ((Int.tmod a0_0 7) + 7)) 7))))).setCell ⟨gb434, 1, none⟩ (.string ⟨#[]⟩)).setCell ⟨gb434, 2, none⟩ (.string ⟨#[]⟩)).setCell ⟨gb434, 3, none⟩ (.string ⟨#[]⟩)).setCell ⟨gb434, 4, none⟩ (.string ⟨#[]⟩)).setCell ⟨gb434, 5, none⟩ (.string ⟨#[]⟩)).heap[gb434]? = some (.cells #[.int .i64 (wrap64 (1 + (Int.tmod (wrap64 ((Int.tmod a0_0 7) + 7)) 7))), .string ⟨#[]⟩, .string ⟨#[]⟩, .string ⟨#[]⟩, .string ⟨#[]⟩, .string ⟨#[]⟩] 50 (0, 0))) := ⟨(bx (blk_put (cs := #[.int .i64 (wrap64 (1 + (Int.tmod (wrap64 ((Int.tmod a0_0 7) + 7)) 7))), .string ⟨#[]⟩, .string ⟨#[]⟩, .string ⟨#[]⟩, .string ⟨#[]⟩, .string ⟨#[]⟩]) (bx (blk_put (cs := #[.int .i64 (wrap64 (1 + (Int.tmod (wrap64 ((Int.tmod a0_0 7) + 7)) 7))), .string ⟨#[]⟩, .string ⟨#[]⟩, .string ⟨#[]⟩, .string ⟨#[]⟩, .string ⟨#[]⟩]) (bx (blk_put (cs := #[.int .i64 (wrap64 (1 + (Int.tmod (wrap64 ((Int.tmod a0_0 7) + 7)) 7))), .string ⟨#[]⟩, .string ⟨#[]⟩, .string ⟨#[]⟩, .string ⟨#[]⟩, .string ⟨#[]⟩]) (bx (blk_put (cs := #[.int .i64 (wrap64 (1 + (Int.tmod (wrap64 ((Int.tmod a0_0 7) + 7)) 7))), .string ⟨#[]⟩, .string ⟨#[]⟩, .string ⟨#[]⟩, .string ⟨#[]⟩, .string ⟨#[]⟩]) (bx (blk_put (cs := #[.int .i64 (wrap64 (1 + (Int.tmod (wrap64 ((Int.tmod a0_0 7) + 7)) 7))), .string ⟨#[]⟩, .string ⟨#[]⟩, .string ⟨#[]⟩, .string ⟨#[]⟩, .string ⟨#[]⟩]) (bx (blk_put (cs := #[.int .i64 0, .string ⟨#[]⟩, .string ⟨#[]⟩, .string ⟨#[]⟩, .string ⟨#[]⟩, .string ⟨#[]⟩]) (bx BK434.out) 0 _ rfl)) 1 _ rfl)) 2 _ rfl)) 3 _ rfl)) 4 _ rfl)) 5 _ rfl))⟩
      have n3_ : Aside0 (Below w.heap.size w ((((((w148.setCell ⟨gb434, 0, none⟩ (.int .i64 (wrap64 (1 + (Int.tmod (wrap64 ((Int.tmod a0_0 7) + 7)) 7))))).setCell ⟨gb434, 1, none⟩ (.string ⟨#[]⟩)).setCell ⟨gb434, 2, none⟩ (.string ⟨#[]⟩)).setCell ⟨gb434, 3, none⟩ (.string ⟨#[]⟩)).setCell ⟨gb434, 4, none⟩ (.string ⟨#[]⟩)).setCell ⟨gb434, 5, none⟩ (.string ⟨#[]⟩))) := ⟨bq⟩
      (try clear BK432)
      (try clear BK433)
      (try clear BK434)
      (try clear HB)
      generalize ((((((w148.setCell ⟨gb434, 0, none⟩ (.int .i64 (wrap64 (1 + (Int.tmod (wrap64 ((Int.tmod a0_0 7) + 7)) 7))))).setCell ⟨gb434, 1, none⟩ (.string ⟨#[]⟩)).setCell ⟨gb434, 2, none⟩ (.string ⟨#[]⟩)).setCell ⟨gb434, 3, none⟩ (.string ⟨#[]⟩)).setCell ⟨gb434, 4, none⟩ (.string ⟨#[]⟩)).setCell ⟨gb434, 5, none⟩ (.string ⟨#[]⟩)) = w152 at n0_ n1_ n2_ n3_ ⊢
      have BK432 := n0_
      have BK433 := n1_
      have BK434 := n2_
      have HB := n3_
      clear n0_ n1_ n2_ n3_
      have n0_ := ak (blk_drew BK432.out)
      have n1_ := ak (blk_drew BK433.out)
      have n2_ := ak (blk_drew BK434.out)
      have n3_ := ak (below_drew1 HB.out)
      clear BK432
      clear BK433
      clear BK434
      clear HB
      have BK432 := n0_
      have BK433 := n1_
      have BK434 := n2_
      have HB := n3_
      clear n0_ n1_ n2_ n3_
      refine start_ (n := 6) (S := fun w' => w'.cell? ⟨gb432, 0, none⟩ = some (.int .i64 a0_0) ∧ w'.cell? ⟨gb432, 1, none⟩ = some (.int .i64 a0_1) ∧ w'.cell? ⟨gb432, 2, none⟩ = some (.int .i64 a0_2) ∧ w'.cell? ⟨gb432, 3, none⟩ = some (.int .i64 a0_3) ∧ w'.cell? ⟨gb432, 4, none⟩ = some (.int .i64 a0_4) ∧ w'.cell? ⟨gb432, 5, none⟩ = some (.int .i64 a0_5) ∧ w'.cell? ⟨gb432, 6, none⟩ = some (.int .i64 a0_6)) (ds := []) #[false, false, false, false, false, false] (by kernel_rfl) rfl rfl ⟨(blk_cell BK432.out 0).trans rfl, (blk_cell BK432.out 1).trans rfl, (blk_cell BK432.out 2).trans rfl, (blk_cell BK432.out 3).trans rfl, (blk_cell BK432.out 4).trans rfl, (blk_cell BK432.out 5).trans rfl, (blk_cell BK432.out 6).trans rfl⟩ (fun hHeld => ?_)
      generalize w152.drew = w153 at BK432 BK433 BK434 HB hHeld ⊢
      refine pure_ (i := 1) (N := some 116) (v := ?_) (a' := ?_) (M 6 2) rfl rfl (by kernel_rfl) (fun _ _ _ h => h) (Or.inl ⟨by rfl, ?_⟩) ?_ ?_
      rotate_left
      ·
       intro w'
       go_simp
       with_reducible rfl
      rotate_left
      ·
       simp only [Act.put, pA, pB, pC, i64_w, i32_w]
       rfl
      refine take_ (i := 2) (N := some 117) (v := ?_) (a' := ?_) (M 6 6) rfl rfl (by kernel_rfl) (fun _ _ _ h => h) (Or.inl ⟨by rfl, ?_⟩) hHeld ?_ ?_
      rotate_left
      ·
       rintro w' ⟨s0, s1, s2, s3, s4, s5, s6⟩
       go_simp
       with_reducible rfl
      rotate_left
      ·
       simp only [Act.put, pA, pB, pC, i64_w, i32_w]
       rfl
      refine one_ (i := 0) (N := some 115) (M 6 7) rfl rfl (by kernel_rfl) (by decide) (fun K hK => ?_)
      refine goes_ Tryd.func61 (by kernel_rfl) rfl #[] (by rfl) rfl rfl mq ?_
      with_reducible refine (isoglossref12_regions.calls  t510 _ A139.out).mono ?_
      rintro e w154 ⟨v511, rfl, ho0, hb⟩
      refine ⟨_, rfl, ?_⟩
      have n0_ := ak (Kd.R_lower ho0 (below_size bq))
      have n1_ := ak (blk_below (g := gb432) (bx BK432.out) hb)
      have n2_ := ak (blk_below (g := gb433) (bx BK433.out) hb)
      have n3_ := ak (blk_below (g := gb434) (bx BK434.out) hb)
      have n4_ := ak (below_step bq hb)
      clear BK432
      clear BK433
      clear BK434
      clear HB
      have HO512 := n0_
      have BK432 := n1_
      have BK433 := n2_
      have BK434 := n3_
      have HB := n4_
      clear n0_ n1_ n2_ n3_ n4_
      (try clear hb)
      (try clear hb2)
      (try clear hk)
      (try clear hi)
      (try clear ho0)
      obtain ⟨Ao155, co155, eo155⟩ := Kd.R_slice HO512.out
      (first | subst eo155 | (injection eo155 with f1_ f2_ f3_; have f4_ := f1_.symm; have f5_ := f3_.symm; clear f1_ f2_ f3_; subst f4_; subst f5_))
      refine hK.out _ _ ⟨(blk_cell BK432.out 0).trans rfl, (blk_cell BK432.out 1).trans rfl, (blk_cell BK432.out 2).trans rfl, (blk_cell BK432.out 3).trans rfl, (blk_cell BK432.out 4).trans rfl, (blk_cell BK432.out 5).trans rfl, (blk_cell BK432.out 6).trans rfl⟩ (fun hHeld => ?_)
      clear hK K
      refine norm_ (a' := ?_) ?_ ?_
      rotate_left
      ·
       show Act.put _ (some 115) _ = _
       simp only [Act.put, pA, pB, pC, i64_w, i32_w]
       rfl
      refine one_ (i := 3) (N := some 118) (M 6 15) rfl rfl (by kernel_rfl) (by decide) (fun K hK => ?_)
      refine goes_ Tryd.func56 (by kernel_rfl) rfl #[.slice Ao155 t510.length co155, .int .i64 a0_1] (by rfl) rfl rfl mq ?_
      with_reducible refine (isoglossref06_Pick.calls _ _ t510 a0_1 t513 _ ?side1 ?side2 A140.out).mono ?_
      (case side1 => repeat (first | exact (Kd.R_reads' HO512.out).2.2 | (with_reducible refine Kd.C_alloc ?_ _) | (with_reducible refine Kd.C_drewN ?_ _) | (with_reducible refine Kd.C_drew ?_)))
      (case side2 => exact (Kd.R_reads' HO512.out).2.1)
      rintro e w' ⟨rfl, ⟨nd, rfl⟩⟩
      refine ⟨_, rfl, ?_⟩
      refine hK.out _ _ ⟨(blk_cell BK432.out 0).trans rfl, (blk_cell BK432.out 1).trans rfl, (blk_cell BK432.out 2).trans rfl, (blk_cell BK432.out 3).trans rfl, (blk_cell BK432.out 4).trans rfl, (blk_cell BK432.out 5).trans rfl, (blk_cell BK432.out 6).trans rfl⟩ (fun hHeld => ?_)
      clear hK K
      refine norm_ (a' := ?_) ?_ ?_
      rotate_left
      ·
       show Act.put _ (some 118) _ = _
       simp only [Act.put, pA, pB, pC, i64_w, i32_w]
       rfl
      refine pure_ (i := 4) (N := some 119) (v := ?_) (a' := ?_) (M 6 31) rfl rfl (by kernel_rfl) (fun _ _ _ h => h) (Or.inl ⟨by rfl, ?_⟩) ?_ ?_
      rotate_left
      ·
       intro w'
       go_simp
       with_reducible rfl
      rotate_left
      ·
       simp only [Act.put, pA, pB, pC, i64_w, i32_w]
       rfl
      refine one_ (i := 5) (N := none) (M 6 63) rfl rfl (by kernel_rfl) (by decide) (fun K hK => ?_)
      have hs156 : w154.cell? ⟨gb434, 1, none⟩ = some (.string ⟨#[]⟩) := (blk_cell BK434.out 1).trans rfl
      have hfs156 := blk_frozen BK434.out 1
      have hns156_0 := NB432_434.out
      have hns156_1 := NB433_434.out
      have hms156_0 := NB434_432.out
      have hms156_1 := NB434_433.out
      refine skip_ (w1 := ?_) (by rfl) rfl ?_ ?_
      rotate_left
      ·
       go_simp
       rfl
      refine hK.out _ _ ⟨((cell_far (p := ⟨gb434, _, none⟩) NB432_434.out _).trans (hHeld.1)), ((cell_far (p := ⟨gb434, _, none⟩) NB432_434.out _).trans (hHeld.2.1)), ((cell_far (p := ⟨gb434, _, none⟩) NB432_434.out _).trans (hHeld.2.2.1)), ((cell_far (p := ⟨gb434, _, none⟩) NB432_434.out _).trans (hHeld.2.2.2.1)), ((cell_far (p := ⟨gb434, _, none⟩) NB432_434.out _).trans (hHeld.2.2.2.2.1)), ((cell_far (p := ⟨gb434, _, none⟩) NB432_434.out _).trans (hHeld.2.2.2.2.2.1)), ((cell_far (p := ⟨gb434, _, none⟩) NB432_434.out _).trans (hHeld.2.2.2.2.2.2))⟩ (fun hHeld => ?_)
      clear hK K
      refine done_ (by kernel_rfl) ?_
      try go_wp2
      have n0_ : Aside0 (Kd.R Kd.string 9 (w154.setCell ⟨gb434, 1, none⟩ (.string t513)) w.heap.size (fun _ => True) (.slice Ao155 t510.length co155) t510) := ⟨(rx (Kd.R_mono (Kd.R_far (p := ⟨gb434, 1, none⟩) (Kd.R_types HO512.out BK434.out (by decide)) (fun _ hk => hk.2) (.string t513)) (fun _ hk => trivial)))⟩
      have n1_ : Aside0 ((w154.setCell ⟨gb434, 1, none⟩ (.string t513)).heap[gb432]? = some (.cells #[.int .i64 a0_0, .int .i64 a0_1, .int .i64 a0_2, .int .i64 a0_3, .int .i64 a0_4, .int .i64 a0_5, .int .i64 a0_6] 52 (0, 0))) := ⟨(bx (blk_far (bx BK432.out) NB432_434.out _))⟩
      have n2_ : Aside0 ((w154.setCell ⟨gb434, 1, none⟩ (.string t513)).heap[gb433]? = some (.cells #[.int .i64 0, .string ⟨#[]⟩, .string ⟨#[]⟩, .string ⟨#[]⟩, .string ⟨#[]⟩, .string ⟨#[]⟩] 50 (0, 0))) := ⟨(bx (blk_far (bx BK433.out) NB433_434.out _))⟩
      have n3_ : Aside0 ((w154.setCell ⟨gb434, 1, none⟩ (.string t513)).heap[gb434]? = some (.cells #[.int .i64 (wrap64 (1 + (Int.tmod (wrap64 ((Int.tmod a0_0 7) + 7)) 7))), .string t513, .string ⟨#[]⟩, .string ⟨#[]⟩, .string ⟨#[]⟩, .string ⟨#[]⟩] 50 (0, 0))) := ⟨(bx (blk_put (cs := #[.int .i64 (wrap64 (1 + (Int.tmod (wrap64 ((Int.tmod a0_0 7) + 7)) 7))), .string ⟨#[]⟩, .string ⟨#[]⟩, .string ⟨#[]⟩, .string ⟨#[]⟩, .string ⟨#[]⟩]) (bx BK434.out) 1 _ rfl))⟩
      have n4_ : Aside0 (Below w.heap.size w (w154.setCell ⟨gb434, 1, none⟩ (.string t513))) := ⟨bq⟩
      (try clear HO512)
      (try clear BK432)
      (try clear BK433)
      (try clear BK434)
      (try clear HB)
      (try rw [setN])
      generalize (w154.setCell ⟨gb434, 1, none⟩ (.string t513)) = w157 at n0_ n1_ n2_ n3_ n4_ ⊢
      have HO512 := n0_
      have BK432 := n1_
      have BK433 := n2_
      have BK434 := n3_
      have HB := n4_
      clear n0_ n1_ n2_ n3_ n4_
      (try (rw [drewN_self w157]; generalize hq_ : World.drewN w157 _ = w157; have n0_ : Aside0 (Kd.R Kd.string 9 w157 w.heap.size (fun _ => True) (.slice Ao155 t510.length co155) t510) := ⟨by rw [← hq_]; exact (rx HO512.out)⟩; have n1_ : Aside0 (w157.heap[gb432]? = some (.cells #[.int .i64 a0_0, .int .i64 a0_1, .int .i64 a0_2, .int .i64 a0_3, .int .i64 a0_4, .int .i64 a0_5, .int .i64 a0_6] 52 (0, 0))) := ⟨by rw [← hq_]; exact (bx BK432.out)⟩; have n2_ : Aside0 (w157.heap[gb433]? = some (.cells #[.int .i64 0, .string ⟨#[]⟩, .string ⟨#[]⟩, .string ⟨#[]⟩, .string ⟨#[]⟩, .string ⟨#[]⟩] 50 (0, 0))) := ⟨by rw [← hq_]; exact (bx BK433.out)⟩; have n3_ : Aside0 (w157.heap[gb434]? = some (.cells #[.int .i64 (wrap64 (1 + (Int.tmod (wrap64 ((Int.tmod a0_0 7) + 7)) 7))), .string t513, .string ⟨#[]⟩, .string ⟨#[]⟩, .string ⟨#[]⟩, .string ⟨#[]⟩] 50 (0, 0))) := ⟨by rw [← hq_]; exact (bx BK434.out)⟩; have n4_ : Aside0 (Below w.heap.size w w157) := ⟨by rw [← hq_]; exact bq⟩; clear HO512 BK432 BK433 BK434 HB hq_; have HO512 := n0_; have BK432 := n1_; have BK433 := n2_; have BK434 := n3_; have HB := n4_; clear n0_ n1_ n2_ n3_ n4_; obtain ⟨hczq_0, hczq_1, hczq_2, hczq_3, hczq_4, hczq_5, hczq_6⟩ := cz7 BK432.out))
      have n0_ := ak (Kd.R_drew HO512.out)
      have n1_ := ak (blk_drew BK432.out)
      have n2_ := ak (blk_drew BK433.out)
      have n3_ := ak (blk_drew BK434.out)
      have n4_ := ak (below_drew1 HB.out)
      clear HO512
      clear BK432
      clear BK433
      clear BK434
      clear HB
      have HO512 := n0_
      have BK432 := n1_
      have BK433 := n2_
      have BK434 := n3_
      have HB := n4_
      clear n0_ n1_ n2_ n3_ n4_
      refine start_ (n := 6) (S := fun w' => w'.cell? ⟨gb432, 0, none⟩ = some (.int .i64 a0_0) ∧ w'.cell? ⟨gb432, 1, none⟩ = some (.int .i64 a0_1) ∧ w'.cell? ⟨gb432, 2, none⟩ = some (.int .i64 a0_2) ∧ w'.cell? ⟨gb432, 3, none⟩ = some (.int .i64 a0_3) ∧ w'.cell? ⟨gb432, 4, none⟩ = some (.int .i64 a0_4) ∧ w'.cell? ⟨gb432, 5, none⟩ = some (.int .i64 a0_5) ∧ w'.cell? ⟨gb432, 6, none⟩ = some (.int .i64 a0_6)) (ds := []) #[false, false, false, false, false, false] (by kernel_rfl) rfl rfl ⟨(blk_cell BK432.out 0).trans rfl, (blk_cell BK432.out 1).trans rfl, (blk_cell BK432.out 2).trans rfl, (blk_cell BK432.out 3).trans rfl, (blk_cell BK432.out 4).trans rfl, (blk_cell BK432.out 5).trans rfl, (blk_cell BK432.out 6).trans rfl⟩ (fun hHeld => ?_)
      generalize w157.drew = w158 at HO512 BK432 BK433 BK434 HB hHeld ⊢
      refine pure_ (i := 1) (N := some 121) (v := ?_) (a' := ?_) (M 6 2) rfl rfl (by kernel_rfl) (fun _ _ _ h => h) (Or.inl ⟨by rfl, ?_⟩) ?_ ?_
      rotate_left
      ·
       intro w'
       go_simp
       with_reducible rfl
      rotate_left
      ·
       simp only [Act.put, pA, pB, pC, i64_w, i32_w]
       rfl
      refine take_ (i := 2) (N := some 122) (v := ?_) (a' := ?_) (M 6 6) rfl rfl (by kernel_rfl) (fun _ _ _ h => h) (Or.inl ⟨by rfl, ?_⟩) hHeld ?_ ?_
      rotate_left
      ·
       rintro w' ⟨s0, s1, s2, s3, s4, s5, s6⟩
       go_simp
       with_reducible rfl
      rotate_left
      ·
       simp only [Act.put, pA, pB, pC, i64_w, i32_w]
       rfl
      refine one_ (i := 0) (N := some 120) (M 6 7) rfl rfl (by kernel_rfl) (by decide) (fun K hK => ?_)
      refine goes_ Tryd.func62 (by kernel_rfl) rfl #[] (by rfl) rfl rfl mq ?_
      with_reducible refine (isoglossref12_toRegions.calls  t514 _ A141.out).mono ?_
      rintro e w159 ⟨v515, rfl, ho0, hb⟩
      refine ⟨_, rfl, ?_⟩
      have n0_ := ak (Kd.R_elder' (rx HO512.out) (Kd.R_base ho0) hb)
      have n1_ := ak (Kd.R_lower (Kd.R_new' ho0 (Kd.R_lt (rx HO512.out))) (below_size bq))
      have n2_ := ak (blk_below (g := gb432) (bx BK432.out) hb)
      have n3_ := ak (blk_below (g := gb433) (bx BK433.out) hb)
      have n4_ := ak (blk_below (g := gb434) (bx BK434.out) hb)
      have n5_ := ak (below_step bq hb)
      clear HO512
      clear BK432
      clear BK433
      clear BK434
      clear HB
      have HO512 := n0_
      have HO516 := n1_
      have BK432 := n2_
      have BK433 := n3_
      have BK434 := n4_
      have HB := n5_
      clear n0_ n1_ n2_ n3_ n4_ n5_
      (try clear hb)
      (try clear hb2)
      (try clear hk)
      (try clear hi)
      (try clear ho0)
      obtain ⟨Ao160, co160, eo160⟩ := Kd.R_slice HO516.out
      (first | subst eo160 | (injection eo160 with f1_ f2_ f3_; have f4_ := f1_.symm; have f5_ := f3_.symm; clear f1_ f2_ f3_; subst f4_; subst f5_))
      refine hK.out _ _ ⟨(blk_cell BK432.out 0).trans rfl, (blk_cell BK432.out 1).trans rfl, (blk_cell BK432.out 2).trans rfl, (blk_cell BK432.out 3).trans rfl, (blk_cell BK432.out 4).trans rfl, (blk_cell BK432.out 5).trans rfl, (blk_cell BK432.out 6).trans rfl⟩ (fun hHeld => ?_)
      clear hK K
      refine norm_ (a' := ?_) ?_ ?_
      rotate_left
      ·
       show Act.put _ (some 120) _ = _
       simp only [Act.put, pA, pB, pC, i64_w, i32_w]
       rfl
      refine one_ (i := 3) (N := some 123) (M 6 15) rfl rfl (by kernel_rfl) (by decide) (fun K hK => ?_)
      refine goes_ Tryd.func56 (by kernel_rfl) rfl #[.slice Ao160 t514.length co160, .int .i64 a0_5] (by rfl) rfl rfl mq ?_
      with_reducible refine (isoglossref06_Pick.calls _ _ t514 a0_5 t517 _ ?side1 ?side2 A142.out).mono ?_
      (case side1 => repeat (first | exact (Kd.R_reads' HO516.out).2.2 | (with_reducible refine Kd.C_alloc ?_ _) | (with_reducible refine Kd.C_drewN ?_ _) | (with_reducible refine Kd.C_drew ?_)))
      (case side2 => exact (Kd.R_reads' HO516.out).2.1)
      rintro e w' ⟨rfl, ⟨nd, rfl⟩⟩
      refine ⟨_, rfl, ?_⟩
      refine hK.out _ _ ⟨(blk_cell BK432.out 0).trans rfl, (blk_cell BK432.out 1).trans rfl, (blk_cell BK432.out 2).trans rfl, (blk_cell BK432.out 3).trans rfl, (blk_cell BK432.out 4).trans rfl, (blk_cell BK432.out 5).trans rfl, (blk_cell BK432.out 6).trans rfl⟩ (fun hHeld => ?_)
      clear hK K
      refine norm_ (a' := ?_) ?_ ?_
      rotate_left
      ·
       show Act.put _ (some 123) _ = _
       simp only [Act.put, pA, pB, pC, i64_w, i32_w]
       rfl
      refine pure_ (i := 4) (N := some 124) (v := ?_) (a' := ?_) (M 6 31) rfl rfl (by kernel_rfl) (fun _ _ _ h => h) (Or.inl ⟨by rfl, ?_⟩) ?_ ?_
      rotate_left
      ·
       intro w'
       go_simp
       with_reducible rfl
      rotate_left
      ·
       simp only [Act.put, pA, pB, pC, i64_w, i32_w]
       rfl
      refine one_ (i := 5) (N := none) (M 6 63) rfl rfl (by kernel_rfl) (by decide) (fun K hK => ?_)
      have hs161 : w159.cell? ⟨gb434, 5, none⟩ = some (.string ⟨#[]⟩) := (blk_cell BK434.out 5).trans rfl
      have hfs161 := blk_frozen BK434.out 5
      have hns161_0 := NB432_434.out
      have hns161_1 := NB433_434.out
      have hms161_0 := NB434_432.out
      have hms161_1 := NB434_433.out
      refine skip_ (w1 := ?_) (by rfl) rfl ?_ ?_
      rotate_left
      ·
       go_simp
       rfl
      refine hK.out _ _ ⟨((cell_far (p := ⟨gb434, _, none⟩) NB432_434.out _).trans (hHeld.1)), ((cell_far (p := ⟨gb434, _, none⟩) NB432_434.out _).trans (hHeld.2.1)), ((cell_far (p := ⟨gb434, _, none⟩) NB432_434.out _).trans (hHeld.2.2.1)), ((cell_far (p := ⟨gb434, _, none⟩) NB432_434.out _).trans (hHeld.2.2.2.1)), ((cell_far (p := ⟨gb434, _, none⟩) NB432_434.out _).trans (hHeld.2.2.2.2.1)), ((cell_far (p := ⟨gb434, _, none⟩) NB432_434.out _).trans (hHeld.2.2.2.2.2.1)), ((cell_far (p := ⟨gb434, _, none⟩) NB432_434.out _).trans (hHeld.2.2.2.2.2.2))⟩ (fun hHeld => ?_)
      clear hK K
      refine done_ (by kernel_rfl) ?_
      obtain ⟨hcz162_0, hcz162_1, hcz162_2, hcz162_3, hcz162_4, hcz162_5⟩ := cz6 BK434.out
      obtain ⟨hfz162_0, hfz162_1, hfz162_2, hfz162_3, hfz162_4, hfz162_5⟩ := fz6 BK434.out
      obtain ⟨hcz163_0, hcz163_1, hcz163_2, hcz163_3, hcz163_4, hcz163_5, hcz163_6⟩ := cz7 BK432.out
      obtain ⟨hfz163_0, hfz163_1, hfz163_2, hfz163_3, hfz163_4, hfz163_5, hfz163_6⟩ := fz7 BK432.out
      try go_wp2_with (first | ((with_reducible refine gate_callee (f := 63) rfl ?_); refine goesL_ (some 143) rfl rfl Tryd.func63 (by kernel_rfl) rfl #[.agg #[.int .i64 (wrap64 (1 + (Int.tmod (wrap64 ((Int.tmod a0_0 7) + 7)) 7))), .string t513, .string ⟨#[]⟩, .string ⟨#[]⟩, .string ⟨#[]⟩, .string t517], .int .i64 (Int.tmod (wrap64 ((Int.tmod a0_6 9) + 9)) 9)] rfl mq ?_; (with_reducible refine (isoglossref12_spoilt.calls k (wrap64 (1 + (Int.tmod (wrap64 ((Int.tmod a0_0 7) + 7)) 7))) t513 (⟨#[]⟩ : ByteArray) (⟨#[]⟩ : ByteArray) (⟨#[]⟩ : ByteArray) t517 (Int.tmod (wrap64 ((Int.tmod a0_6 9) + 9)) 9) t518 t519 t520 t521 t522 t523 _ A143.out).mono ?_); rintro e w164 ⟨rfl, hb⟩; refine ⟨_, rfl, ?_⟩; have n0_ := ak (Kd.R_below (rx ((Kd.R_mono (Kd.R_far (p := ⟨gb434, 5, none⟩) (Kd.R_types HO512.out BK434.out (by decide)) (fun _ hk => hk.2) (.string t517)) (fun _ h_ => h_.1)))) hb); have n1_ := ak (Kd.R_below (rx ((Kd.R_mono (Kd.R_far (p := ⟨gb434, 5, none⟩) (Kd.R_types HO516.out BK434.out (by decide)) (fun _ hk => hk.2) (.string t517)) (fun _ h_ => h_.1)))) hb); have n2_ := ak (blk_below (g := gb432) (o := .cells #[.int .i64 a0_0, .int .i64 a0_1, .int .i64 a0_2, .int .i64 a0_3, .int .i64 a0_4, .int .i64 a0_5, .int .i64 a0_6] 52 (0, 0)) (bx (blk_far (bx BK432.out) NB432_434.out _)) hb); have n3_ := ak (blk_below (g := gb433) (o := .cells #[.int .i64 0, .string ⟨#[]⟩, .string ⟨#[]⟩, .string ⟨#[]⟩, .string ⟨#[]⟩, .string ⟨#[]⟩] 50 (0, 0)) (bx (blk_far (bx BK433.out) NB433_434.out _)) hb); have n4_ := ak (blk_below (g := gb434) (o := .cells #[.int .i64 (wrap64 (1 + (Int.tmod (wrap64 ((Int.tmod a0_0 7) + 7)) 7))), .string t513, .string ⟨#[]⟩, .string ⟨#[]⟩, .string ⟨#[]⟩, .string t517] 50 (0, 0)) (bx (blk_put (cs := #[.int .i64 (wrap64 (1 + (Int.tmod (wrap64 ((Int.tmod a0_0 7) + 7)) 7))), .string t513, .string ⟨#[]⟩, .string ⟨#[]⟩, .string ⟨#[]⟩, .string ⟨#[]⟩]) (bx BK434.out) 5 _ rfl)) hb); have n5_ := ak (below_step bq hb); clear HO512; clear HO516; clear BK432; clear BK433; clear BK434; clear HB; have HO512 := n0_; have HO516 := n1_; have BK432 := n2_; have BK433 := n3_; have BK434 := n4_; have HB := n5_; clear n0_ n1_ n2_ n3_ n4_ n5_; (try clear hb); (try clear hb2); (try clear hk); (try clear hi); obtain ⟨hcz165_0, hcz165_1, hcz165_2, hcz165_3, hcz165_4, hcz165_5⟩ := cz6 BK433.out; obtain ⟨hfz165_0, hfz165_1, hfz165_2, hfz165_3, hfz165_4, hfz165_5⟩ := fz6 BK433.out; (try clear A143)))
      refine bodyPost_ret (results_cell_row rfl _ _ gb433 50 #[.int .i64 t518, .string t519, .string t520, .string t521, .string t522, .string t523] (0, 0) _ rfl (bx (blk_put (cs := #[.int .i64 t518, .string t519, .string t520, .string t521, .string t522, .string ⟨#[]⟩]) (bx (blk_put (cs := #[.int .i64 t518, .string t519, .string t520, .string t521, .string ⟨#[]⟩, .string ⟨#[]⟩]) (bx (blk_put (cs := #[.int .i64 t518, .string t519, .string t520, .string ⟨#[]⟩, .string ⟨#[]⟩, .string ⟨#[]⟩]) (bx (blk_put (cs := #[.int .i64 t518, .string t519, .string ⟨#[]⟩, .string ⟨#[]⟩, .string ⟨#[]⟩, .string ⟨#[]⟩]) (bx (blk_put (cs := #[.int .i64 t518, .string ⟨#[]⟩, .string ⟨#[]⟩, .string ⟨#[]⟩, .string ⟨#[]⟩, .string ⟨#[]⟩]) (bx (blk_put (cs := #[.int .i64 0, .string ⟨#[]⟩, .string ⟨#[]⟩, .string ⟨#[]⟩, .string ⟨#[]⟩, .string ⟨#[]⟩]) (bx BK433.out) 0 _ rfl)) 1 _ rfl)) 2 _ rfl)) 3 _ rfl)) 4 _ rfl)) 5 _ rfl)) Tryd.underlying50 rfl (by kernel_rfl)) rfl ?_
      exact ⟨by first | rfl | (simp [errW_none, errW_some] <;> rfl) | (simp [*, errW_none, errW_some] <;> rfl), bq⟩
     ·
      rw [if_neg c138] at H
      have c138b0 : ((wrap64 (1 + (Int.tmod (wrap64 ((Int.tmod a0_0 7) + 7)) 7))) == 5) = false := beq_eq_false_iff_ne.mpr c138
      have c138b1 : ((wrap64 (1 + (Int.tmod (wrap64 ((Int.tmod a0_0 7) + 7)) 7))) != 5) = true := bne_iff_ne.mpr c138
      by_cases c166 : (wrap64 (1 + (Int.tmod (wrap64 ((Int.tmod a0_0 7) + 7)) 7))) = 6
      ·
       rw [if_pos c166] at H
       have c166b0 : ((wrap64 (1 + (Int.tmod (wrap64 ((Int.tmod a0_0 7) + 7)) 7))) == 6) = true := beq_iff_eq.mpr c166
       have c166b1 : ((wrap64 (1 + (Int.tmod (wrap64 ((Int.tmod a0_0 7) + 7)) 7))) != 6) = false := bne_eq_false_iff_eq.mpr c166
       (try (have c166b2 : ((wrap64 (1 + (Int.tmod (wrap64 ((Int.tmod a0_0 7) + 7)) 7))) : Int).toNat = 6 := by rw [c166]; rfl))
       clear c166
       obtain ⟨y524, hy524⟩ : ∃ y_ : List ByteArray, y_ = (([⟨#[104, 101, 112, 108, 111, 99]⟩, ⟨#[97, 114, 101, 118, 101, 108, 97]⟩, ⟨#[49, 97, 50, 98]⟩] : List ByteArray)) := ⟨_, rfl⟩
       replace H : ((isoglossref06_Pick.f y524 a0_1).bind fun t527 => ((isoglossref06_Pick.f (([⟨#[]⟩, ⟨#[97, 108, 97, 108, 99, 57, 55]⟩, ⟨#[49, 57, 57, 52]⟩] : List ByteArray)) a0_3).bind fun t531 => ((isoglossref12_spoilt.f k (wrap64 (1 + (Int.tmod (wrap64 ((Int.tmod a0_0 7) + 7)) 7))) t527 (⟨#[]⟩ : ByteArray) t531 (⟨#[]⟩ : ByteArray) (⟨#[]⟩ : ByteArray) (Int.tmod (wrap64 ((Int.tmod a0_6 9) + 9)) 9)).bind fun bt532 => (some (bt532.1, bt532.2.1, bt532.2.2.1, bt532.2.2.2.1, bt532.2.2.2.2.1, bt532.2.2.2.2.2))))) = some (r1, r2, r3, r4, r5, r6) := by first | (rw [hy524]; with_reducible exact H) | (have H2_ := (Option.bind_some _ _).symm.trans H; rw [hy524]; with_reducible exact H2_) | (have H2_ := (Option.bind_some _ _).symm.trans H; with_reducible exact H2_) | with_reducible exact H | (rw [hy524]; exact H) | exact H
       have Ny524 := ak hy524
       clear hy524
       replace H := Option.bind_eq_some_iff.mp H
       obtain ⟨t527, A1670, H⟩ := H
       have A167 := ak A1670
       clear A1670
       obtain ⟨y528, hy528⟩ : ∃ y_ : List ByteArray, y_ = (([⟨#[]⟩, ⟨#[97, 108, 97, 108, 99, 57, 55]⟩, ⟨#[49, 57, 57, 52]⟩] : List ByteArray)) := ⟨_, rfl⟩
       replace H : ((isoglossref06_Pick.f y528 a0_3).bind fun t531 => ((isoglossref12_spoilt.f k (wrap64 (1 + (Int.tmod (wrap64 ((Int.tmod a0_0 7) + 7)) 7))) t527 (⟨#[]⟩ : ByteArray) t531 (⟨#[]⟩ : ByteArray) (⟨#[]⟩ : ByteArray) (Int.tmod (wrap64 ((Int.tmod a0_6 9) + 9)) 9)).bind fun bt532 => (some (bt532.1, bt532.2.1, bt532.2.2.1, bt532.2.2.2.1, bt532.2.2.2.2.1, bt532.2.2.2.2.2)))) = some (r1, r2, r3, r4, r5, r6) := by first | (rw [hy528]; with_reducible exact H) | (have H2_ := (Option.bind_some _ _).symm.trans H; rw [hy528]; with_reducible exact H2_) | (have H2_ := (Option.bind_some _ _).symm.trans H; with_reducible exact H2_) | with_reducible exact H | (rw [hy528]; exact H) | exact H
       have Ny528 := ak hy528
       clear hy528
       replace H := Option.bind_eq_some_iff.mp H
       obtain ⟨t531, A1680, H⟩ := H
       have A168 := ak A1680
       clear A1680
       replace H := Option.bind_eq_some_iff.mp H
       obtain ⟨⟨t532, t533, t534, t535, t536, t537⟩, A1690, H⟩ := H
       replace H : (some (t532, t533, t534, t535, t536, t537)) = some (r1, r2, r3, r4, r5, r6) := H
       have A169 := ak A1690
       clear A1690
       simp only [Option.some.injEq, Prod.mk.injEq] at H
       obtain ⟨rfl, rfl, rfl, rfl, rfl, rfl⟩ := H
       go_enter Tryd.func34, Tryd.ntmps34
       go_wp2_with (first | ((with_reducible refine gate_dst (N := 1) rfl ?_); refine box_event ?hg (N := 1) ?hd (cs := #[.int .i64 a0_0, .int .i64 a0_1, .int .i64 a0_2, .int .i64 a0_3, .int .i64 a0_4, .int .i64 a0_5, .int .i64 a0_6]) (t := 52) ?hr ?_; (case hd => rfl); (case hg => rfl); (case hr => first | (go_simp; done) | (go_simp; rfl)); intro gb432 hg w170 hbox hb; have n0_ := ak (below_step bq hb); have n1_ := ak (hbox); have n2_ := ak ((by rw [hg]; exact (below_size bq) : w.heap.size ≤ gb432)); have n3_ := ak ((by rw [hg]; exact (below_size bq) : w.heap.size ≤ gb432)); clear HB; have HB := n0_; have BK432 := n1_; have GW432 := n2_; have GE432 := n3_; clear n0_ n1_ n2_ n3_; clear hb hbox hg) | ((with_reducible refine gate_dst (N := 2) rfl ?_); refine box_event ?hg (N := 2) ?hd (cs := #[.int .i64 0, .string ⟨#[]⟩, .string ⟨#[]⟩, .string ⟨#[]⟩, .string ⟨#[]⟩, .string ⟨#[]⟩]) (t := 50) ?hr ?_; (case hd => rfl); (case hg => rfl); (case hr => first | (go_simp; done) | (go_simp; rfl)); intro gb433 hg w171 hbox hb; have n0_ := ak (blk_below (g := gb432) (bx BK432.out) hb); have n1_ := ak (below_step bq hb); have n2_ := ak (hbox); have n3_ := ak ((by rw [hg]; exact (below_size bq) : w.heap.size ≤ gb433)); have n4_ := ak ((by rw [hg]; exact (below_size bq) : w.heap.size ≤ gb433)); have n5_ := ak ((by rw [hg]; exact Nat.ne_of_lt (blk_lt (g := gb432) (bx BK432.out)) : gb432 ≠ gb433)); have n6_ := ak ((by rw [hg]; exact Nat.ne_of_gt (blk_lt (g := gb432) (bx BK432.out)) : gb433 ≠ gb432)); clear BK432; clear HB; have BK432 := n0_; have HB := n1_; have BK433 := n2_; have GW433 := n3_; have GE433 := n4_; have NB432_433 := n5_; have NB433_432 := n6_; clear n0_ n1_ n2_ n3_ n4_ n5_ n6_; clear hb hbox hg; have hnb172 := NB432_433.out; have hnc172 := NB433_432.out; obtain ⟨hcz173_0, hcz173_1, hcz173_2, hcz173_3, hcz173_4, hcz173_5, hcz173_6⟩ := cz7 BK432.out; obtain ⟨hfz173_0, hfz173_1, hfz173_2, hfz173_3, hfz173_4, hfz173_5, hfz173_6⟩ := fz7 BK432.out) | ((with_reducible refine gate_dst (N := 3) rfl ?_); refine box_event ?hg (N := 3) ?hd (cs := #[.int .i64 0, .string ⟨#[]⟩, .string ⟨#[]⟩, .string ⟨#[]⟩, .string ⟨#[]⟩, .string ⟨#[]⟩]) (t := 50) ?hr ?_; (case hd => rfl); (case hg => rfl); (case hr => first | (go_simp; done) | (go_simp; rfl)); intro gb434 hg w174 hbox hb; have n0_ := ak (blk_below (g := gb432) (bx BK432.out) hb); have n1_ := ak (blk_below (g := gb433) (bx BK433.out) hb); have n2_ := ak (below_step bq hb); have n3_ := ak (hbox); have n4_ := ak ((by rw [hg]; exact (below_size bq) : w.heap.size ≤ gb434)); have n5_ := ak ((by rw [hg]; exact (below_size bq) : w.heap.size ≤ gb434)); have n6_ := ak ((by rw [hg]; exact Nat.ne_of_lt (blk_lt (g := gb432) (bx BK432.out)) : gb432 ≠ gb434)); have n7_ := ak ((by rw [hg]; exact Nat.ne_of_gt (blk_lt (g := gb432) (bx BK432.out)) : gb434 ≠ gb432)); have n8_ := ak ((by rw [hg]; exact Nat.ne_of_lt (blk_lt (g := gb433) (bx BK433.out)) : gb433 ≠ gb434)); have n9_ := ak ((by rw [hg]; exact Nat.ne_of_gt (blk_lt (g := gb433) (bx BK433.out)) : gb434 ≠ gb433)); clear BK432; clear BK433; clear HB; have BK432 := n0_; have BK433 := n1_; have HB := n2_; have BK434 := n3_; have GW434 := n4_; have GE434 := n5_; have NB432_434 := n6_; have NB434_432 := n7_; have NB433_434 := n8_; have NB434_433 := n9_; clear n0_ n1_ n2_ n3_ n4_ n5_ n6_ n7_ n8_ n9_; clear hb hbox hg; have hnb175 := NB434_432.out; have hnc175 := NB432_434.out; have hnb176 := NB434_433.out; have hnc176 := NB433_434.out; obtain ⟨hcz177_0, hcz177_1, hcz177_2, hcz177_3, hcz177_4, hcz177_5⟩ := cz6 BK434.out; obtain ⟨hfz177_0, hfz177_1, hfz177_2, hfz177_3, hfz177_4, hfz177_5⟩ := fz6 BK434.out) | ((with_reducible refine gate_dst (N := 127) rfl ?_); refine Kd.R_lit Kd.string _ 9 ?hg (N := 127) ?hd (xs := ([⟨#[104, 101, 112, 108, 111, 99]⟩, ⟨#[97, 114, 101, 118, 101, 108, 97]⟩, ⟨#[49, 97, 50, 98]⟩] : List ByteArray)) (inner := [.string ⟨#[104, 101, 112, 108, 111, 99]⟩, .string ⟨#[97, 114, 101, 118, 101, 108, 97]⟩, .string ⟨#[49, 97, 50, 98]⟩]) (ok := fun _ => True) (okp := fun _ => True) ?hr ?hp (fun _ hk => hk) trivial (Below.refl _ _) (Nat.le_refl _) (by simp) ?_; (case hd => rfl); (case hg => rfl); (case hr => first | (go_simp; done) | (go_simp; rfl)); (case hp => exact (Reps.one (show Kd.M Kd.string _ _ _ (⟨#[104, 101, 112, 108, 111, 99]⟩ : ByteArray) [.string ⟨#[104, 101, 112, 108, 111, 99]⟩] from rfl) (Reps.one (show Kd.M Kd.string _ _ _ (⟨#[97, 114, 101, 118, 101, 108, 97]⟩ : ByteArray) [.string ⟨#[97, 114, 101, 118, 101, 108, 97]⟩] from rfl) (Reps.one (show Kd.M Kd.string _ _ _ (⟨#[49, 97, 50, 98]⟩ : ByteArray) [.string ⟨#[49, 97, 50, 98]⟩] from rfl) (Reps.none _ _))))); intro v525 w178 ho179 hb hg_ hnew_; clear hg_ hnew_; (first | rw [← Ny524.out] at ho179 | (simp only [Int.reduceToNat] at ho179; rw [← Ny524.out] at ho179)); have n0_ := ak (Kd.R_lower ho179 (below_size bq)); have n1_ := ak (blk_below (g := gb432) (o := .cells #[.int .i64 a0_0, .int .i64 a0_1, .int .i64 a0_2, .int .i64 a0_3, .int .i64 a0_4, .int .i64 a0_5, .int .i64 a0_6] 52 (0, 0)) (bx (blk_far (bx (blk_far (bx (blk_far (bx (blk_far (bx (blk_far (bx (blk_far (bx BK432.out) NB432_434.out _)) NB432_434.out _)) NB432_434.out _)) NB432_434.out _)) NB432_434.out _)) NB432_434.out _)) hb); have n2_ := ak (blk_below (g := gb433) (o := .cells #[.int .i64 0, .string ⟨#[]⟩, .string ⟨#[]⟩, .string ⟨#[]⟩, .string ⟨#[]⟩, .string ⟨#[]⟩] 50 (0, 0)) (bx (blk_far (bx (blk_far (bx (blk_far (bx (blk_far (bx (blk_far (bx (blk_far (bx BK433.out) NB433_434.out _)) NB433_434.out _)) NB433_434.out _)) NB433_434.out _)) NB433_434.out _)) NB433_434.out _)) hb); have n3_ := ak (blk_below (g := gb434) (o := .cells #[.int .i64 (wrap64 (1 + (Int.tmod (wrap64 ((Int.tmod a0_0 7) + 7)) 7))), .string ⟨#[]⟩, .string ⟨#[]⟩, .string ⟨#[]⟩, .string ⟨#[]⟩, .string ⟨#[]⟩] 50 (0, 0)) (bx (blk_put (cs := #[.int .i64 (wrap64 (1 + (Int.tmod (wrap64 ((Int.tmod a0_0 7) + 7)) 7))), .string ⟨#[]⟩, .string ⟨#[]⟩, .string ⟨#[]⟩, .string ⟨#[]⟩, .string ⟨#[]⟩]) (bx (blk_put (cs := #[.int .i64 (wrap64 (1 + (Int.tmod (wrap64 ((Int.tmod a0_0 7) + 7)) 7))), .string ⟨#[]⟩, .string ⟨#[]⟩, .string ⟨#[]⟩, .string ⟨#[]⟩, .string ⟨#[]⟩]) (bx (blk_put (cs := #[.int .i64 (wrap64 (1 + (Int.tmod (wrap64 ((Int.tmod a0_0 7) + 7)) 7))), .string ⟨#[]⟩, .string ⟨#[]⟩, .string ⟨#[]⟩, .string ⟨#[]⟩, .string ⟨#[]⟩]) (bx (blk_put (cs := #[.int .i64 (wrap64 (1 + (Int.tmod (wrap64 ((Int.tmod a0_0 7) + 7)) 7))), .string ⟨#[]⟩, .string ⟨#[]⟩, .string ⟨#[]⟩, .string ⟨#[]⟩, .string ⟨#[]⟩]) (bx (blk_put (cs := #[.int .i64 (wrap64 (1 + (Int.tmod (wrap64 ((Int.tmod a0_0 7) + 7)) 7))), .string ⟨#[]⟩, .string ⟨#[]⟩, .string ⟨#[]⟩, .string ⟨#[]⟩, .string ⟨#[]⟩]) (bx (blk_put (cs := #[.int .i64 0, .string ⟨#[]⟩, .string ⟨#[]⟩, .string ⟨#[]⟩, .string ⟨#[]⟩, .string ⟨#[]⟩]) (bx BK434.out) 0 _ rfl)) 1 _ rfl)) 2 _ rfl)) 3 _ rfl)) 4 _ rfl)) 5 _ rfl)) hb); have n4_ := ak (below_step bq hb); clear BK432; clear BK433; clear BK434; clear HB; have HO526 := n0_; have BK432 := n1_; have BK433 := n2_; have BK434 := n3_; have HB := n4_; clear n0_ n1_ n2_ n3_ n4_; clear hb ho179; obtain ⟨hcz180_0, hcz180_1, hcz180_2, hcz180_3, hcz180_4, hcz180_5, hcz180_6⟩ := cz7 BK432.out; obtain ⟨hfz180_0, hfz180_1, hfz180_2, hfz180_3, hfz180_4, hfz180_5, hfz180_6⟩ := fz7 BK432.out; obtain ⟨Ao181, co181, eo181⟩ := Kd.R_slice HO526.out; subst eo181) | ((with_reducible refine gate_callee (f := 56) rfl ?_); refine goesL_ (some 130) rfl rfl Tryd.func56 (by kernel_rfl) rfl #[.slice Ao181 y524.length co181, .int .i64 a0_1] rfl mq ?_; (with_reducible refine (isoglossref06_Pick.calls _ _ y524 a0_1 t527 _ ?side1 ?side2 A167.out).mono ?_); (case side1 => repeat (first | exact (Kd.R_reads' HO526.out).2.2 | (with_reducible refine Kd.C_alloc ?_ _) | (with_reducible refine Kd.C_drewN ?_ _) | (with_reducible refine Kd.C_drew ?_))); (case side2 => exact (Kd.R_reads' HO526.out).2.1); rintro e w' ⟨rfl, ⟨nd, rfl⟩⟩; refine ⟨_, rfl, ?_⟩; (try (rw [drewN_self w178]; generalize hq_ : World.drewN w178 _ = w178; have n0_ : Aside0 (Kd.R Kd.string 9 w178 w.heap.size (fun _ => True) (.slice Ao181 y524.length co181) y524) := ⟨by rw [← hq_]; exact (rx HO526.out)⟩; have n1_ : Aside0 (w178.heap[gb432]? = some (.cells #[.int .i64 a0_0, .int .i64 a0_1, .int .i64 a0_2, .int .i64 a0_3, .int .i64 a0_4, .int .i64 a0_5, .int .i64 a0_6] 52 (0, 0))) := ⟨by rw [← hq_]; exact (bx BK432.out)⟩; have n2_ : Aside0 (w178.heap[gb433]? = some (.cells #[.int .i64 0, .string ⟨#[]⟩, .string ⟨#[]⟩, .string ⟨#[]⟩, .string ⟨#[]⟩, .string ⟨#[]⟩] 50 (0, 0))) := ⟨by rw [← hq_]; exact (bx BK433.out)⟩; have n3_ : Aside0 (w178.heap[gb434]? = some (.cells #[.int .i64 (wrap64 (1 + (Int.tmod (wrap64 ((Int.tmod a0_0 7) + 7)) 7))), .string ⟨#[]⟩, .string ⟨#[]⟩, .string ⟨#[]⟩, .string ⟨#[]⟩, .string ⟨#[]⟩] 50 (0, 0))) := ⟨by rw [← hq_]; exact (bx BK434.out)⟩; have n4_ : Aside0 (Below w.heap.size w w178) := ⟨by rw [← hq_]; exact bq⟩; clear HO526 BK432 BK433 BK434 HB hq_; have HO526 := n0_; have BK432 := n1_; have BK433 := n2_; have BK434 := n3_; have HB := n4_; clear n0_ n1_ n2_ n3_ n4_; obtain ⟨hczq_0, hczq_1, hczq_2, hczq_3, hczq_4, hczq_5, hczq_6⟩ := cz7 BK432.out)); obtain ⟨hcz182_0, hcz182_1, hcz182_2, hcz182_3, hcz182_4, hcz182_5⟩ := cz6 BK434.out; obtain ⟨hfz182_0, hfz182_1, hfz182_2, hfz182_3, hfz182_4, hfz182_5⟩ := fz6 BK434.out; (try clear A167)) | ((with_reducible refine gate_dst (N := 132) rfl ?_); refine Kd.R_lit Kd.string _ 9 ?hg (N := 132) ?hd (xs := ([⟨#[]⟩, ⟨#[97, 108, 97, 108, 99, 57, 55]⟩, ⟨#[49, 57, 57, 52]⟩] : List ByteArray)) (inner := [.string ⟨#[]⟩, .string ⟨#[97, 108, 97, 108, 99, 57, 55]⟩, .string ⟨#[49, 57, 57, 52]⟩]) (ok := fun _ => True) (okp := fun _ => True) ?hr ?hp (fun _ hk => hk) trivial (Below.refl _ _) (Nat.le_refl _) (by simp) ?_; (case hd => rfl); (case hg => rfl); (case hr => first | (go_simp; done) | (go_simp; rfl)); (case hp => exact (Reps.one (show Kd.M Kd.string _ _ _ (⟨#[]⟩ : ByteArray) [.string ⟨#[]⟩] from rfl) (Reps.one (show Kd.M Kd.string _ _ _ (⟨#[97, 108, 97, 108, 99, 57, 55]⟩ : ByteArray) [.string ⟨#[97, 108, 97, 108, 99, 57, 55]⟩] from rfl) (Reps.one (show Kd.M Kd.string _ _ _ (⟨#[49, 57, 57, 52]⟩ : ByteArray) [.string ⟨#[49, 57, 57, 52]⟩] from rfl) (Reps.none _ _))))); intro v529 w183 ho184 hb hg_ hnew_; clear hg_ hnew_; (first | rw [← Ny528.out] at ho184 | (simp only [Int.reduceToNat] at ho184; rw [← Ny528.out] at ho184)); have n0_ := ak (Kd.R_elder' (rx ((Kd.R_mono (Kd.R_far (p := ⟨gb434, 1, none⟩) (Kd.R_types HO526.out BK434.out (by decide)) (fun _ hk => hk.2) (.string t527)) (fun _ h_ => h_.1)))) (Kd.R_base ho184) hb); have n1_ := ak (Kd.R_lower (Kd.R_new' ho184 (Kd.R_lt (rx ((Kd.R_mono (Kd.R_far (p := ⟨gb434, 1, none⟩) (Kd.R_types HO526.out BK434.out (by decide)) (fun _ hk => hk.2) (.string t527)) (fun _ h_ => h_.1)))))) (below_size bq)); have n2_ := ak (blk_below (g := gb432) (o := .cells #[.int .i64 a0_0, .int .i64 a0_1, .int .i64 a0_2, .int .i64 a0_3, .int .i64 a0_4, .int .i64 a0_5, .int .i64 a0_6] 52 (0, 0)) (bx (blk_far (bx BK432.out) NB432_434.out _)) hb); have n3_ := ak (blk_below (g := gb433) (o := .cells #[.int .i64 0, .string ⟨#[]⟩, .string ⟨#[]⟩, .string ⟨#[]⟩, .string ⟨#[]⟩, .string ⟨#[]⟩] 50 (0, 0)) (bx (blk_far (bx BK433.out) NB433_434.out _)) hb); have n4_ := ak (blk_below (g := gb434) (o := .cells #[.int .i64 (wrap64 (1 + (Int.tmod (wrap64 ((Int.tmod a0_0 7) + 7)) 7))), .string t527, .string ⟨#[]⟩, .string ⟨#[]⟩, .string ⟨#[]⟩, .string ⟨#[]⟩] 50 (0, 0)) (bx (blk_put (cs := #[.int .i64 (wrap64 (1 + (Int.tmod (wrap64 ((Int.tmod a0_0 7) + 7)) 7))), .string ⟨#[]⟩, .string ⟨#[]⟩, .string ⟨#[]⟩, .string ⟨#[]⟩, .string ⟨#[]⟩]) (bx BK434.out) 1 _ rfl)) hb); have n5_ := ak (below_step bq hb); clear HO526; clear BK432; clear BK433; clear BK434; clear HB; have HO526 := n0_; have HO530 := n1_; have BK432 := n2_; have BK433 := n3_; have BK434 := n4_; have HB := n5_; clear n0_ n1_ n2_ n3_ n4_ n5_; clear hb ho184; obtain ⟨hcz185_0, hcz185_1, hcz185_2, hcz185_3, hcz185_4, hcz185_5, hcz185_6⟩ := cz7 BK432.out; obtain ⟨hfz185_0, hfz185_1, hfz185_2, hfz185_3, hfz185_4, hfz185_5, hfz185_6⟩ := fz7 BK432.out; obtain ⟨Ao186, co186, eo186⟩ := Kd.R_slice HO530.out; subst eo186) | ((with_reducible refine gate_callee (f := 56) rfl ?_); refine goesL_ (some 135) rfl rfl Tryd.func56 (by kernel_rfl) rfl #[.slice Ao186 y528.length co186, .int .i64 a0_3] rfl mq ?_; (with_reducible refine (isoglossref06_Pick.calls _ _ y528 a0_3 t531 _ ?side1 ?side2 A168.out).mono ?_); (case side1 => repeat (first | exact (Kd.R_reads' HO530.out).2.2 | (with_reducible refine Kd.C_alloc ?_ _) | (with_reducible refine Kd.C_drewN ?_ _) | (with_reducible refine Kd.C_drew ?_))); (case side2 => exact (Kd.R_reads' HO530.out).2.1); rintro e w' ⟨rfl, ⟨nd, rfl⟩⟩; refine ⟨_, rfl, ?_⟩; (try (rw [drewN_self w183]; generalize hq_ : World.drewN w183 _ = w183; have n0_ : Aside0 (Kd.R Kd.string 9 w183 w.heap.size (fun k_ => some k_ ≠ (.slice Ao186 y528.length co186 : Value).ownBlock) (.slice Ao181 y524.length co181) y524) := ⟨by rw [← hq_]; exact (rx (Kd.R_mono HO526.out (fun _ hk => hk.2)))⟩; have n1_ : Aside0 (Kd.R Kd.string 9 w183 w.heap.size (fun k_ => some k_ ≠ (.slice Ao181 y524.length co181 : Value).ownBlock) (.slice Ao186 y528.length co186) y528) := ⟨by rw [← hq_]; exact (rx (Kd.R_mono HO530.out (fun _ hk => hk.2)))⟩; have n2_ : Aside0 (w183.heap[gb432]? = some (.cells #[.int .i64 a0_0, .int .i64 a0_1, .int .i64 a0_2, .int .i64 a0_3, .int .i64 a0_4, .int .i64 a0_5, .int .i64 a0_6] 52 (0, 0))) := ⟨by rw [← hq_]; exact (bx BK432.out)⟩; have n3_ : Aside0 (w183.heap[gb433]? = some (.cells #[.int .i64 0, .string ⟨#[]⟩, .string ⟨#[]⟩, .string ⟨#[]⟩, .string ⟨#[]⟩, .string ⟨#[]⟩] 50 (0, 0))) := ⟨by rw [← hq_]; exact (bx BK433.out)⟩; have n4_ : Aside0 (w183.heap[gb434]? = some (.cells #[.int .i64 (wrap64 (1 + (Int.tmod (wrap64 ((Int.tmod a0_0 7) + 7)) 7))), .string t527, .string ⟨#[]⟩, .string ⟨#[]⟩, .string ⟨#[]⟩, .string ⟨#[]⟩] 50 (0, 0))) := ⟨by rw [← hq_]; exact (bx BK434.out)⟩; have n5_ : Aside0 (Below w.heap.size w w183) := ⟨by rw [← hq_]; exact bq⟩; clear HO526 HO530 BK432 BK433 BK434 HB hq_; have HO526 := n0_; have HO530 := n1_; have BK432 := n2_; have BK433 := n3_; have BK434 := n4_; have HB := n5_; clear n0_ n1_ n2_ n3_ n4_ n5_; obtain ⟨hczq_0, hczq_1, hczq_2, hczq_3, hczq_4, hczq_5, hczq_6⟩ := cz7 BK432.out)); obtain ⟨hcz187_0, hcz187_1, hcz187_2, hcz187_3, hcz187_4, hcz187_5⟩ := cz6 BK434.out; obtain ⟨hfz187_0, hfz187_1, hfz187_2, hfz187_3, hfz187_4, hfz187_5⟩ := fz6 BK434.out; (try clear A168)) | ((with_reducible refine gate_callee (f := 63) rfl ?_); refine goesL_ (some 143) rfl rfl Tryd.func63 (by kernel_rfl) rfl #[.agg #[.int .i64 (wrap64 (1 + (Int.tmod (wrap64 ((Int.tmod a0_0 7) + 7)) 7))), .string t527, .string ⟨#[]⟩, .string t531, .string ⟨#[]⟩, .string ⟨#[]⟩], .int .i64 (Int.tmod (wrap64 ((Int.tmod a0_6 9) + 9)) 9)] rfl mq ?_; (with_reducible refine (isoglossref12_spoilt.calls k (wrap64 (1 + (Int.tmod (wrap64 ((Int.tmod a0_0 7) + 7)) 7))) t527 (⟨#[]⟩ : ByteArray) t531 (⟨#[]⟩ : ByteArray) (⟨#[]⟩ : ByteArray) (Int.tmod (wrap64 ((Int.tmod a0_6 9) + 9)) 9) t532 t533 t534 t535 t536 t537 _ A169.out).mono ?_); rintro e w188 ⟨rfl, hb⟩; refine ⟨_, rfl, ?_⟩; have n0_ := ak (Kd.R_below (rx ((Kd.R_mono (Kd.R_far (p := ⟨gb434, 3, none⟩) (Kd.R_types HO526.out BK434.out (by decide)) (fun _ hk => hk.2) (.string t531)) (fun _ h_ => h_.1)))) hb); have n1_ := ak (Kd.R_below (rx ((Kd.R_mono (Kd.R_far (p := ⟨gb434, 3, none⟩) (Kd.R_types HO530.out BK434.out (by decide)) (fun _ hk => hk.2) (.string t531)) (fun _ h_ => h_.1)))) hb); have n2_ := ak (blk_below (g := gb432) (o := .cells #[.int .i64 a0_0, .int .i64 a0_1, .int .i64 a0_2, .int .i64 a0_3, .int .i64 a0_4, .int .i64 a0_5, .int .i64 a0_6] 52 (0, 0)) (bx (blk_far (bx BK432.out) NB432_434.out _)) hb); have n3_ := ak (blk_below (g := gb433) (o := .cells #[.int .i64 0, .string ⟨#[]⟩, .string ⟨#[]⟩, .string ⟨#[]⟩, .string ⟨#[]⟩, .string ⟨#[]⟩] 50 (0, 0)) (bx (blk_far (bx BK433.out) NB433_434.out _)) hb); have n4_ := ak (blk_below (g := gb434) (o := .cells #[.int .i64 (wrap64 (1 + (Int.tmod (wrap64 ((Int.tmod a0_0 7) + 7)) 7))), .string t527, .string ⟨#[]⟩, .string t531, .string ⟨#[]⟩, .string ⟨#[]⟩] 50 (0, 0)) (bx (blk_put (cs := #[.int .i64 (wrap64 (1 + (Int.tmod (wrap64 ((Int.tmod a0_0 7) + 7)) 7))), .string t527, .string ⟨#[]⟩, .string ⟨#[]⟩, .string ⟨#[]⟩, .string ⟨#[]⟩]) (bx BK434.out) 3 _ rfl)) hb); have n5_ := ak (below_step bq hb); clear HO526; clear HO530; clear BK432; clear BK433; clear BK434; clear HB; have HO526 := n0_; have HO530 := n1_; have BK432 := n2_; have BK433 := n3_; have BK434 := n4_; have HB := n5_; clear n0_ n1_ n2_ n3_ n4_ n5_; (try clear hb); (try clear hb2); (try clear hk); (try clear hi); obtain ⟨hcz189_0, hcz189_1, hcz189_2, hcz189_3, hcz189_4, hcz189_5⟩ := cz6 BK433.out; obtain ⟨hfz189_0, hfz189_1, hfz189_2, hfz189_3, hfz189_4, hfz189_5⟩ := fz6 BK433.out; (try clear A169)))
       refine bodyPost_ret (results_cell_row rfl _ _ gb433 50 #[.int .i64 t532, .string t533, .string t534, .string t535, .string t536, .string t537] (0, 0) _ rfl (bx (blk_put (cs := #[.int .i64 t532, .string t533, .string t534, .string t535, .string t536, .string ⟨#[]⟩]) (bx (blk_put (cs := #[.int .i64 t532, .string t533, .string t534, .string t535, .string ⟨#[]⟩, .string ⟨#[]⟩]) (bx (blk_put (cs := #[.int .i64 t532, .string t533, .string t534, .string ⟨#[]⟩, .string ⟨#[]⟩, .string ⟨#[]⟩]) (bx (blk_put (cs := #[.int .i64 t532, .string t533, .string ⟨#[]⟩, .string ⟨#[]⟩, .string ⟨#[]⟩, .string ⟨#[]⟩]) (bx (blk_put (cs := #[.int .i64 t532, .string ⟨#[]⟩, .string ⟨#[]⟩, .string ⟨#[]⟩, .string ⟨#[]⟩, .string ⟨#[]⟩]) (bx (blk_put (cs := #[.int .i64 0, .string ⟨#[]⟩, .string ⟨#[]⟩, .string ⟨#[]⟩, .string ⟨#[]⟩, .string ⟨#[]⟩]) (bx BK433.out) 0 _ rfl)) 1 _ rfl)) 2 _ rfl)) 3 _ rfl)) 4 _ rfl)) 5 _ rfl)) Tryd.underlying50 rfl (by kernel_rfl)) rfl ?_
       exact ⟨by first | rfl | (simp [errW_none, errW_some] <;> rfl) | (simp [*, errW_none, errW_some] <;> rfl), bq⟩
      ·
       rw [if_neg c166] at H
       have c166b0 : ((wrap64 (1 + (Int.tmod (wrap64 ((Int.tmod a0_0 7) + 7)) 7))) == 6) = false := beq_eq_false_iff_ne.mpr c166
       have c166b1 : ((wrap64 (1 + (Int.tmod (wrap64 ((Int.tmod a0_0 7) + 7)) 7))) != 6) = true := bne_iff_ne.mpr c166
       obtain ⟨y538, hy538⟩ : ∃ y_ : List ByteArray, y_ = (([⟨#[99, 97]⟩, ⟨#[99, 111]⟩] : List ByteArray)) := ⟨_, rfl⟩
       replace H : ((isoglossref06_Pick.f y538 a0_1).bind fun t541 => ((isoglossref06_Pick.f (([⟨#[105, 115, 108, 97, 109, 105, 99, 99]⟩, ⟨#[97, 98, 49]⟩, ⟨#[112, 104, 111, 110, 101, 98, 107]⟩] : List ByteArray)) a0_2).bind fun t545 => ((isoglossref06_Pick.f (([⟨#[99, 105, 118, 105, 108]⟩, ⟨#[116, 114, 117, 101]⟩, ⟨#[115, 116, 97, 110, 100, 97, 114, 100]⟩] : List ByteArray)) a0_3).bind fun t549 => ((isoglossref12_spoilt.f k (wrap64 (1 + (Int.tmod (wrap64 ((Int.tmod a0_0 7) + 7)) 7))) t541 t545 t549 (⟨#[]⟩ : ByteArray) (⟨#[]⟩ : ByteArray) (Int.tmod (wrap64 ((Int.tmod a0_6 9) + 9)) 9)).bind fun bt550 => (some (bt550.1, bt550.2.1, bt550.2.2.1, bt550.2.2.2.1, bt550.2.2.2.2.1, bt550.2.2.2.2.2)))))) = some (r1, r2, r3, r4, r5, r6) := by first | (rw [hy538]; with_reducible exact H) | (have H2_ := (Option.bind_some _ _).symm.trans H; rw [hy538]; with_reducible exact H2_) | (have H2_ := (Option.bind_some _ _).symm.trans H; with_reducible exact H2_) | with_reducible exact H | (rw [hy538]; exact H) | exact H
       have Ny538 := ak hy538
       clear hy538
       replace H := Option.bind_eq_some_iff.mp H
       obtain ⟨t541, A1900, H⟩ := H
       have A190 := ak A1900
       clear A1900
       obtain ⟨y542, hy542⟩ : ∃ y_ : List ByteArray, y_ = (([⟨#[105, 115, 108, 97, 109, 105, 99, 99]⟩, ⟨#[97, 98, 49]⟩, ⟨#[112, 104, 111, 110, 101, 98, 107]⟩] : List ByteArray)) := ⟨_, rfl⟩
       replace H : ((isoglossref06_Pick.f y542 a0_2).bind fun t545 => ((isoglossref06_Pick.f (([⟨#[99, 105, 118, 105, 108]⟩, ⟨#[116, 114, 117, 101]⟩, ⟨#[115, 116, 97, 110, 100, 97, 114, 100]⟩] : List ByteArray)) a0_3).bind fun t549 => ((isoglossref12_spoilt.f k (wrap64 (1 + (Int.tmod (wrap64 ((Int.tmod a0_0 7) + 7)) 7))) t541 t545 t549 (⟨#[]⟩ : ByteArray) (⟨#[]⟩ : ByteArray) (Int.tmod (wrap64 ((Int.tmod a0_6 9) + 9)) 9)).bind fun bt550 => (some (bt550.1, bt550.2.1, bt550.2.2.1, bt550.2.2.2.1, bt550.2.2.2.2.1, bt550.2.2.2.2.2))))) = some (r1, r2, r3, r4, r5, r6) := by first | (rw [hy542]; with_reducible exact H) | (have H2_ := (Option.bind_some _ _).symm.trans H; rw [hy542]; with_reducible exact H2_) | (have H2_ := (Option.bind_some _ _).symm.trans H; with_reducible exact H2_) | with_reducible exact H | (rw [hy542]; exact H) | exact H
       have Ny542 := ak hy542
       clear hy542
       replace H := Option.bind_eq_some_iff.mp H
       obtain ⟨t545, A1910, H⟩ := H
       have A191 := ak A1910
       clear A1910
       obtain ⟨y546, hy546⟩ : ∃ y_ : List ByteArray, y_ = (([⟨#[99, 105, 118, 105, 108]⟩, ⟨#[116, 114, 117, 101]⟩, ⟨#[115, 116, 97, 110, 100, 97, 114, 100]⟩] : List ByteArray)) := ⟨_, rfl⟩
       replace H : ((isoglossref06_Pick.f y546 a0_3).bind fun t549 => ((isoglossref12_spoilt.f k (wrap64 (1 + (Int.tmod (wrap64 ((Int.tmod a0_0 7) + 7)) 7))) t541 t545 t549 (⟨#[]⟩ : ByteArray) (⟨#[]⟩ : ByteArray) (Int.tmod (wrap64 ((Int.tmod a0_6 9) + 9)) 9)).bind fun bt550 => (some (bt550.1, bt550.2.1, bt550.2.2.1, bt550.2.2.2.1, bt550.2.2.2.2.1, bt550.2.2.2.2.2)))) = some (r1, r2, r3, r4, r5, r6) := by first | (rw [hy546]; with_reducible exact H) | (have H2_ := (Option.bind_some _ _).symm.trans H; rw [hy546]; with_reducible exact H2_) | (have H2_ := (Option.bind_some _ _).symm.trans H; with_reducible exact H2_) | with_reducible exact H | (rw [hy546]; exact H) | exact H
       have Ny546 := ak hy546
       clear hy546
       replace H := Option.bind_eq_some_iff.mp H
       obtain ⟨t549, A1920, H⟩ := H
       have A192 := ak A1920
       clear A1920
       replace H := Option.bind_eq_some_iff.mp H
       obtain ⟨⟨t550, t551, t552, t553, t554, t555⟩, A1930, H⟩ := H
       replace H : (some (t550, t551, t552, t553, t554, t555)) = some (r1, r2, r3, r4, r5, r6) := H
       have A193 := ak A1930
       clear A1930
       simp only [Option.some.injEq, Prod.mk.injEq] at H
       obtain ⟨rfl, rfl, rfl, rfl, rfl, rfl⟩ := H
       go_enter Tryd.func34, Tryd.ntmps34
       go_wp2_with (first | ((with_reducible refine gate_dst (N := 1) rfl ?_); refine box_event ?hg (N := 1) ?hd (cs := #[.int .i64 a0_0, .int .i64 a0_1, .int .i64 a0_2, .int .i64 a0_3, .int .i64 a0_4, .int .i64 a0_5, .int .i64 a0_6]) (t := 52) ?hr ?_; (case hd => rfl); (case hg => rfl); (case hr => first | (go_simp; done) | (go_simp; rfl)); intro gb432 hg w194 hbox hb; have n0_ := ak (below_step bq hb); have n1_ := ak (hbox); have n2_ := ak ((by rw [hg]; exact (below_size bq) : w.heap.size ≤ gb432)); have n3_ := ak ((by rw [hg]; exact (below_size bq) : w.heap.size ≤ gb432)); clear HB; have HB := n0_; have BK432 := n1_; have GW432 := n2_; have GE432 := n3_; clear n0_ n1_ n2_ n3_; clear hb hbox hg) | ((with_reducible refine gate_dst (N := 2) rfl ?_); refine box_event ?hg (N := 2) ?hd (cs := #[.int .i64 0, .string ⟨#[]⟩, .string ⟨#[]⟩, .string ⟨#[]⟩, .string ⟨#[]⟩, .string ⟨#[]⟩]) (t := 50) ?hr ?_; (case hd => rfl); (case hg => rfl); (case hr => first | (go_simp; done) | (go_simp; rfl)); intro gb433 hg w195 hbox hb; have n0_ := ak (blk_below (g := gb432) (bx BK432.out) hb); have n1_ := ak (below_step bq hb); have n2_ := ak (hbox); have n3_ := ak ((by rw [hg]; exact (below_size bq) : w.heap.size ≤ gb433)); have n4_ := ak ((by rw [hg]; exact (below_size bq) : w.heap.size ≤ gb433)); have n5_ := ak ((by rw [hg]; exact Nat.ne_of_lt (blk_lt (g := gb432) (bx BK432.out)) : gb432 ≠ gb433)); have n6_ := ak ((by rw [hg]; exact Nat.ne_of_gt (blk_lt (g := gb432) (bx BK432.out)) : gb433 ≠ gb432)); clear BK432; clear HB; have BK432 := n0_; have HB := n1_; have BK433 := n2_; have GW433 := n3_; have GE433 := n4_; have NB432_433 := n5_; have NB433_432 := n6_; clear n0_ n1_ n2_ n3_ n4_ n5_ n6_; clear hb hbox hg; have hnb196 := NB432_433.out; have hnc196 := NB433_432.out; obtain ⟨hcz197_0, hcz197_1, hcz197_2, hcz197_3, hcz197_4, hcz197_5, hcz197_6⟩ := cz7 BK432.out; obtain ⟨hfz197_0, hfz197_1, hfz197_2, hfz197_3, hfz197_4, hfz197_5, hfz197_6⟩ := fz7 BK432.out) | ((with_reducible refine gate_dst (N := 3) rfl ?_); refine box_event ?hg (N := 3) ?hd (cs := #[.int .i64 0, .string ⟨#[]⟩, .string ⟨#[]⟩, .string ⟨#[]⟩, .string ⟨#[]⟩, .string ⟨#[]⟩]) (t := 50) ?hr ?_; (case hd => rfl); (case hg => rfl); (case hr => first | (go_simp; done) | (go_simp; rfl)); intro gb434 hg w198 hbox hb; have n0_ := ak (blk_below (g := gb432) (bx BK432.out) hb); have n1_ := ak (blk_below (g := gb433) (bx BK433.out) hb); have n2_ := ak (below_step bq hb); have n3_ := ak (hbox); have n4_ := ak ((by rw [hg]; exact (below_size bq) : w.heap.size ≤ gb434)); have n5_ := ak ((by rw [hg]; exact (below_size bq) : w.heap.size ≤ gb434)); have n6_ := ak ((by rw [hg]; exact Nat.ne_of_lt (blk_lt (g := gb432) (bx BK432.out)) : gb432 ≠ gb434)); have n7_ := ak ((by rw [hg]; exact Nat.ne_of_gt (blk_lt (g := gb432) (bx BK432.out)) : gb434 ≠ gb432)); have n8_ := ak ((by rw [hg]; exact Nat.ne_of_lt (blk_lt (g := gb433) (bx BK433.out)) : gb433 ≠ gb434)); have n9_ := ak ((by rw [hg]; exact Nat.ne_of_gt (blk_lt (g := gb433) (bx BK433.out)) : gb434 ≠ gb433)); clear BK432; clear BK433; clear HB; have BK432 := n0_; have BK433 := n1_; have HB := n2_; have BK434 := n3_; have GW434 := n4_; have GE434 := n5_; have NB432_434 := n6_; have NB434_432 := n7_; have NB433_434 := n8_; have NB434_433 := n9_; clear n0_ n1_ n2_ n3_ n4_ n5_ n6_ n7_ n8_ n9_; clear hb hbox hg; have hnb199 := NB434_432.out; have hnc199 := NB432_434.out; have hnb200 := NB434_433.out; have hnc200 := NB433_434.out; obtain ⟨hcz201_0, hcz201_1, hcz201_2, hcz201_3, hcz201_4, hcz201_5⟩ := cz6 BK434.out; obtain ⟨hfz201_0, hfz201_1, hfz201_2, hfz201_3, hfz201_4, hfz201_5⟩ := fz6 BK434.out) | ((with_reducible refine gate_dst (N := 14) rfl ?_); refine Kd.R_lit Kd.string _ 9 ?hg (N := 14) ?hd (xs := ([⟨#[99, 97]⟩, ⟨#[99, 111]⟩] : List ByteArray)) (inner := [.string ⟨#[99, 97]⟩, .string ⟨#[99, 111]⟩]) (ok := fun _ => True) (okp := fun _ => True) ?hr ?hp (fun _ hk => hk) trivial (Below.refl _ _) (Nat.le_refl _) (by simp) ?_; (case hd => rfl); (case hg => rfl); (case hr => first | (go_simp; done) | (go_simp; rfl)); (case hp => exact (Reps.one (show Kd.M Kd.string _ _ _ (⟨#[99, 97]⟩ : ByteArray) [.string ⟨#[99, 97]⟩] from rfl) (Reps.one (show Kd.M Kd.string _ _ _ (⟨#[99, 111]⟩ : ByteArray) [.string ⟨#[99, 111]⟩] from rfl) (Reps.none _ _)))); intro v539 w202 ho203 hb hg_ hnew_; clear hg_ hnew_; (first | rw [← Ny538.out] at ho203 | (simp only [Int.reduceToNat] at ho203; rw [← Ny538.out] at ho203)); have n0_ := ak (Kd.R_lower ho203 (below_size bq)); have n1_ := ak (blk_below (g := gb432) (o := .cells #[.int .i64 a0_0, .int .i64 a0_1, .int .i64 a0_2, .int .i64 a0_3, .int .i64 a0_4, .int .i64 a0_5, .int .i64 a0_6] 52 (0, 0)) (bx (blk_far (bx (blk_far (bx (blk_far (bx (blk_far (bx (blk_far (bx (blk_far (bx BK432.out) NB432_434.out _)) NB432_434.out _)) NB432_434.out _)) NB432_434.out _)) NB432_434.out _)) NB432_434.out _)) hb); have n2_ := ak (blk_below (g := gb433) (o := .cells #[.int .i64 0, .string ⟨#[]⟩, .string ⟨#[]⟩, .string ⟨#[]⟩, .string ⟨#[]⟩, .string ⟨#[]⟩] 50 (0, 0)) (bx (blk_far (bx (blk_far (bx (blk_far (bx (blk_far (bx (blk_far (bx (blk_far (bx BK433.out) NB433_434.out _)) NB433_434.out _)) NB433_434.out _)) NB433_434.out _)) NB433_434.out _)) NB433_434.out _)) hb); have n3_ := ak (blk_below (g := gb434) (o := .cells #[.int .i64 (wrap64 (1 + (Int.tmod (wrap64 ((Int.tmod a0_0 7) + 7)) 7))), .string ⟨#[]⟩, .string ⟨#[]⟩, .string ⟨#[]⟩, .string ⟨#[]⟩, .string ⟨#[]⟩] 50 (0, 0)) (bx (blk_put (cs := #[.int .i64 (wrap64 (1 + (Int.tmod (wrap64 ((Int.tmod a0_0 7) + 7)) 7))), .string ⟨#[]⟩, .string ⟨#[]⟩, .string ⟨#[]⟩, .string ⟨#[]⟩, .string ⟨#[]⟩]) (bx (blk_put (cs := #[.int .i64 (wrap64 (1 + (Int.tmod (wrap64 ((Int.tmod a0_0 7) + 7)) 7))), .string ⟨#[]⟩, .string ⟨#[]⟩, .string ⟨#[]⟩, .string ⟨#[]⟩, .string ⟨#[]⟩]) (bx (blk_put (cs := #[.int .i64 (wrap64 (1 + (Int.tmod (wrap64 ((Int.tmod a0_0 7) + 7)) 7))), .string ⟨#[]⟩, .string ⟨#[]⟩, .string ⟨#[]⟩, .string ⟨#[]⟩, .string ⟨#[]⟩]) (bx (blk_put (cs := #[.int .i64 (wrap64 (1 + (Int.tmod (wrap64 ((Int.tmod a0_0 7) + 7)) 7))), .string ⟨#[]⟩, .string ⟨#[]⟩, .string ⟨#[]⟩, .string ⟨#[]⟩, .string ⟨#[]⟩]) (bx (blk_put (cs := #[.int .i64 (wrap64 (1 + (Int.tmod (wrap64 ((Int.tmod a0_0 7) + 7)) 7))), .string ⟨#[]⟩, .string ⟨#[]⟩, .string ⟨#[]⟩, .string ⟨#[]⟩, .string ⟨#[]⟩]) (bx (blk_put (cs := #[.int .i64 0, .string ⟨#[]⟩, .string ⟨#[]⟩, .string ⟨#[]⟩, .string ⟨#[]⟩, .string ⟨#[]⟩]) (bx BK434.out) 0 _ rfl)) 1 _ rfl)) 2 _ rfl)) 3 _ rfl)) 4 _ rfl)) 5 _ rfl)) hb); have n4_ := ak (below_step bq hb); clear BK432; clear BK433; clear BK434; clear HB; have HO540 := n0_; have BK432 := n1_; have BK433 := n2_; have BK434 := n3_; have HB := n4_; clear n0_ n1_ n2_ n3_ n4_; clear hb ho203; obtain ⟨hcz204_0, hcz204_1, hcz204_2, hcz204_3, hcz204_4, hcz204_5, hcz204_6⟩ := cz7 BK432.out; obtain ⟨hfz204_0, hfz204_1, hfz204_2, hfz204_3, hfz204_4, hfz204_5, hfz204_6⟩ := fz7 BK432.out; obtain ⟨Ao205, co205, eo205⟩ := Kd.R_slice HO540.out; subst eo205) | ((with_reducible refine gate_callee (f := 56) rfl ?_); refine goesL_ (some 17) rfl rfl Tryd.func56 (by kernel_rfl) rfl #[.slice Ao205 y538.length co205, .int .i64 a0_1] rfl mq ?_; (with_reducible refine (isoglossref06_Pick.calls _ _ y538 a0_1 t541 _ ?side1 ?side2 A190.out).mono ?_); (case side1 => repeat (first | exact (Kd.R_reads' HO540.out).2.2 | (with_reducible refine Kd.C_alloc ?_ _) | (with_reducible refine Kd.C_drewN ?_ _) | (with_reducible refine Kd.C_drew ?_))); (case side2 => exact (Kd.R_reads' HO540.out).2.1); rintro e w' ⟨rfl, ⟨nd, rfl⟩⟩; refine ⟨_, rfl, ?_⟩; (try (rw [drewN_self w202]; generalize hq_ : World.drewN w202 _ = w202; have n0_ : Aside0 (Kd.R Kd.string 9 w202 w.heap.size (fun _ => True) (.slice Ao205 y538.length co205) y538) := ⟨by rw [← hq_]; exact (rx HO540.out)⟩; have n1_ : Aside0 (w202.heap[gb432]? = some (.cells #[.int .i64 a0_0, .int .i64 a0_1, .int .i64 a0_2, .int .i64 a0_3, .int .i64 a0_4, .int .i64 a0_5, .int .i64 a0_6] 52 (0, 0))) := ⟨by rw [← hq_]; exact (bx BK432.out)⟩; have n2_ : Aside0 (w202.heap[gb433]? = some (.cells #[.int .i64 0, .string ⟨#[]⟩, .string ⟨#[]⟩, .string ⟨#[]⟩, .string ⟨#[]⟩, .string ⟨#[]⟩] 50 (0, 0))) := ⟨by rw [← hq_]; exact (bx BK433.out)⟩; have n3_ : Aside0 (w202.heap[gb434]? = some (.cells #[.int .i64 (wrap64 (1 + (Int.tmod (wrap64 ((Int.tmod a0_0 7) + 7)) 7))), .string ⟨#[]⟩, .string ⟨#[]⟩, .string ⟨#[]⟩, .string ⟨#[]⟩, .string ⟨#[]⟩] 50 (0, 0))) := ⟨by rw [← hq_]; exact (bx BK434.out)⟩; have n4_ : Aside0 (Below w.heap.size w w202) := ⟨by rw [← hq_]; exact bq⟩; clear HO540 BK432 BK433 BK434 HB hq_; have HO540 := n0_; have BK432 := n1_; have BK433 := n2_; have BK434 := n3_; have HB := n4_; clear n0_ n1_ n2_ n3_ n4_; obtain ⟨hczq_0, hczq_1, hczq_2, hczq_3, hczq_4, hczq_5, hczq_6⟩ := cz7 BK432.out)); obtain ⟨hcz206_0, hcz206_1, hcz206_2, hcz206_3, hcz206_4, hcz206_5⟩ := cz6 BK434.out; obtain ⟨hfz206_0, hfz206_1, hfz206_2, hfz206_3, hfz206_4, hfz206_5⟩ := fz6 BK434.out; (try clear A190)) | ((with_reducible refine gate_dst (N := 19) rfl ?_); refine Kd.R_lit Kd.string _ 9 ?hg (N := 19) ?hd (xs := ([⟨#[105, 115, 108, 97, 109, 105, 99, 99]⟩, ⟨#[97, 98, 49]⟩, ⟨#[112, 104, 111, 110, 101, 98, 107]⟩] : List ByteArray)) (inner := [.string ⟨#[105, 115, 108, 97, 109, 105, 99, 99]⟩, .string ⟨#[97, 98, 49]⟩, .string ⟨#[112, 104, 111, 110, 101, 98, 107]⟩]) (ok := fun _ => True) (okp := fun _ => True) ?hr ?hp (fun _ hk => hk) trivial (Below.refl _ _) (Nat.le_refl _) (by simp) ?_; (case hd => rfl); (case hg => rfl); (case hr => first | (go_simp; done) | (go_simp; rfl)); (case hp => exact (Reps.one (show Kd.M Kd.string _ _ _ (⟨#[105, 115, 108, 97, 109, 105, 99, 99]⟩ : ByteArray) [.string ⟨#[105, 115, 108, 97, 109, 105, 99, 99]⟩] from rfl) (Reps.one (show Kd.M Kd.string _ _ _ (⟨#[97, 98, 49]⟩ : ByteArray) [.string ⟨#[97, 98, 49]⟩] from rfl) (Reps.one (show Kd.M Kd.string _ _ _ (⟨#[112, 104, 111, 110, 101, 98, 107]⟩ : ByteArray) [.string ⟨#[112, 104, 111, 110, 101, 98, 107]⟩] from rfl) (Reps.none _ _))))); intro v543 w207 ho208 hb hg_ hnew_; clear hg_ hnew_; (first | rw [← Ny542.out] at ho208 | (simp only [Int.reduceToNat] at ho208; rw [← Ny542.out] at ho208)); have n0_ := ak (Kd.R_elder' (rx ((Kd.R_mono (Kd.R_far (p := ⟨gb434, 1, none⟩) (Kd.R_types HO540.out BK434.out (by decide)) (fun _ hk => hk.2) (.string t541)) (fun _ h_ => h_.1)))) (Kd.R_base ho208) hb); have n1_ := ak (Kd.R_lower (Kd.R_new' ho208 (Kd.R_lt (rx ((Kd.R_mono (Kd.R_far (p := ⟨gb434, 1, none⟩) (Kd.R_types HO540.out BK434.out (by decide)) (fun _ hk => hk.2) (.string t541)) (fun _ h_ => h_.1)))))) (below_size bq)); have n2_ := ak (blk_below (g := gb432) (o := .cells #[.int .i64 a0_0, .int .i64 a0_1, .int .i64 a0_2, .int .i64 a0_3, .int .i64 a0_4, .int .i64 a0_5, .int .i64 a0_6] 52 (0, 0)) (bx (blk_far (bx BK432.out) NB432_434.out _)) hb); have n3_ := ak (blk_below (g := gb433) (o := .cells #[.int .i64 0, .string ⟨#[]⟩, .string ⟨#[]⟩, .string ⟨#[]⟩, .string ⟨#[]⟩, .string ⟨#[]⟩] 50 (0, 0)) (bx (blk_far (bx BK433.out) NB433_434.out _)) hb); have n4_ := ak (blk_below (g := gb434) (o := .cells #[.int .i64 (wrap64 (1 + (Int.tmod (wrap64 ((Int.tmod a0_0 7) + 7)) 7))), .string t541, .string ⟨#[]⟩, .string ⟨#[]⟩, .string ⟨#[]⟩, .string ⟨#[]⟩] 50 (0, 0)) (bx (blk_put (cs := #[.int .i64 (wrap64 (1 + (Int.tmod (wrap64 ((Int.tmod a0_0 7) + 7)) 7))), .string ⟨#[]⟩, .string ⟨#[]⟩, .string ⟨#[]⟩, .string ⟨#[]⟩, .string ⟨#[]⟩]) (bx BK434.out) 1 _ rfl)) hb); have n5_ := ak (below_step bq hb); clear HO540; clear BK432; clear BK433; clear BK434; clear HB; have HO540 := n0_; have HO544 := n1_; have BK432 := n2_; have BK433 := n3_; have BK434 := n4_; have HB := n5_; clear n0_ n1_ n2_ n3_ n4_ n5_; clear hb ho208; obtain ⟨hcz209_0, hcz209_1, hcz209_2, hcz209_3, hcz209_4, hcz209_5, hcz209_6⟩ := cz7 BK432.out; obtain ⟨hfz209_0, hfz209_1, hfz209_2, hfz209_3, hfz209_4, hfz209_5, hfz209_6⟩ := fz7 BK432.out; obtain ⟨Ao210, co210, eo210⟩ := Kd.R_slice HO544.out; subst eo210) | ((with_reducible refine gate_callee (f := 56) rfl ?_); refine goesL_ (some 22) rfl rfl Tryd.func56 (by kernel_rfl) rfl #[.slice Ao210 y542.length co210, .int .i64 a0_2] rfl mq ?_; (with_reducible refine (isoglossref06_Pick.calls _ _ y542 a0_2 t545 _ ?side1 ?side2 A191.out).mono ?_); (case side1 => repeat (first | exact (Kd.R_reads' HO544.out).2.2 | (with_reducible refine Kd.C_alloc ?_ _) | (with_reducible refine Kd.C_drewN ?_ _) | (with_reducible refine Kd.C_drew ?_))); (case side2 => exact (Kd.R_reads' HO544.out).2.1); rintro e w' ⟨rfl, ⟨nd, rfl⟩⟩; refine ⟨_, rfl, ?_⟩; (try (rw [drewN_self w207]; generalize hq_ : World.drewN w207 _ = w207; have n0_ : Aside0 (Kd.R Kd.string 9 w207 w.heap.size (fun k_ => some k_ ≠ (.slice Ao210 y542.length co210 : Value).ownBlock) (.slice Ao205 y538.length co205) y538) := ⟨by rw [← hq_]; exact (rx (Kd.R_mono HO540.out (fun _ hk => hk.2)))⟩; have n1_ : Aside0 (Kd.R Kd.string 9 w207 w.heap.size (fun k_ => some k_ ≠ (.slice Ao205 y538.length co205 : Value).ownBlock) (.slice Ao210 y542.length co210) y542) := ⟨by rw [← hq_]; exact (rx (Kd.R_mono HO544.out (fun _ hk => hk.2)))⟩; have n2_ : Aside0 (w207.heap[gb432]? = some (.cells #[.int .i64 a0_0, .int .i64 a0_1, .int .i64 a0_2, .int .i64 a0_3, .int .i64 a0_4, .int .i64 a0_5, .int .i64 a0_6] 52 (0, 0))) := ⟨by rw [← hq_]; exact (bx BK432.out)⟩; have n3_ : Aside0 (w207.heap[gb433]? = some (.cells #[.int .i64 0, .string ⟨#[]⟩, .string ⟨#[]⟩, .string ⟨#[]⟩, .string ⟨#[]⟩, .string ⟨#[]⟩] 50 (0, 0))) := ⟨by rw [← hq_]; exact (bx BK433.out)⟩; have n4_ : Aside0 (w207.heap[gb434]? = some (.cells #[.int .i64 (wrap64 (1 + (Int.tmod (wrap64 ((Int.tmod a0_0 7) + 7)) 7))), .string t541, .string ⟨#[]⟩, .string ⟨#[]⟩, .string ⟨#[]⟩, .string ⟨#[]⟩] 50 (0, 0))) := ⟨by rw [← hq_]; exact (bx BK434.out)⟩; have n5_ : Aside0 (Below w.heap.size w w207) := ⟨by rw [← hq_]; exact bq⟩; clear HO540 HO544 BK432 BK433 BK434 HB hq_; have HO540 := n0_; have HO544 := n1_; have BK432 := n2_; have BK433 := n3_; have BK434 := n4_; have HB := n5_; clear n0_ n1_ n2_ n3_ n4_ n5_; obtain ⟨hczq_0, hczq_1, hczq_2, hczq_3, hczq_4, hczq_5, hczq_6⟩ := cz7 BK432.out)); obtain ⟨hcz211_0, hcz211_1, hcz211_2, hcz211_3, hcz211_4, hcz211_5⟩ := cz6 BK434.out; obtain ⟨hfz211_0, hfz211_1, hfz211_2, hfz211_3, hfz211_4, hfz211_5⟩ := fz6 BK434.out; (try clear A191)) | ((with_reducible refine gate_dst (N := 24) rfl ?_); refine Kd.R_lit Kd.string _ 9 ?hg (N := 24) ?hd (xs := ([⟨#[99, 105, 118, 105, 108]⟩, ⟨#[116, 114, 117, 101]⟩, ⟨#[115, 116, 97, 110, 100, 97, 114, 100]⟩] : List ByteArray)) (inner := [.string ⟨#[99, 105, 118, 105, 108]⟩, .string ⟨#[116, 114, 117, 101]⟩, .string ⟨#[115, 116, 97, 110, 100, 97, 114, 100]⟩]) (ok := fun _ => True) (okp := fun _ => True) ?hr ?hp (fun _ hk => hk) trivial (Below.refl _ _) (Nat.le_refl _) (by simp) ?_; (case hd => rfl); (case hg => rfl); (case hr => first | (go_simp; done) | (go_simp; rfl)); (case hp => exact (Reps.one (show Kd.M Kd.string _ _ _ (⟨#[99, 105, 118, 105, 108]⟩ : ByteArray) [.string ⟨#[99, 105, 118, 105, 108]⟩] from rfl) (Reps.one (show Kd.M Kd.string _ _ _ (⟨#[116, 114, 117, 101]⟩ : ByteArray) [.string ⟨#[116, 114, 117, 101]⟩] from rfl) (Reps.one (show Kd.M Kd.string _ _ _ (⟨#[115, 116, 97, 110, 100, 97, 114, 100]⟩ : ByteArray) [.string ⟨#[115, 116, 97, 110, 100, 97, 114, 100]⟩] from rfl) (Reps.none _ _))))); intro v547 w212 ho213 hb hg_ hnew_; clear hg_ hnew_; (first | rw [← Ny546.out] at ho213 | (simp only [Int.reduceToNat] at ho213; rw [← Ny546.out] at ho213)); have n0_ := ak (Kd.R_elder' (rx ((Kd.R_mono (Kd.R_far (p := ⟨gb434, 2, none⟩) (Kd.R_types HO540.out BK434.out (by decide)) (fun _ hk => hk.2) (.string t545)) (fun _ h_ => h_.1)))) (Kd.R_base ho213) hb); have n1_ := ak (Kd.R_elder' (rx ((Kd.R_mono (Kd.R_far (p := ⟨gb434, 2, none⟩) (Kd.R_types HO544.out BK434.out (by decide)) (fun _ hk => hk.2) (.string t545)) (fun _ h_ => h_.1)))) (Kd.R_base ho213) hb); have n2_ := ak (Kd.R_lower (Kd.R_new' (Kd.R_new' ho213 (Kd.R_lt (rx ((Kd.R_mono (Kd.R_far (p := ⟨gb434, 2, none⟩) (Kd.R_types HO540.out BK434.out (by decide)) (fun _ hk => hk.2) (.string t545)) (fun _ h_ => h_.1)))))) (Kd.R_lt (rx ((Kd.R_mono (Kd.R_far (p := ⟨gb434, 2, none⟩) (Kd.R_types HO544.out BK434.out (by decide)) (fun _ hk => hk.2) (.string t545)) (fun _ h_ => h_.1)))))) (below_size bq)); have n3_ := ak (blk_below (g := gb432) (o := .cells #[.int .i64 a0_0, .int .i64 a0_1, .int .i64 a0_2, .int .i64 a0_3, .int .i64 a0_4, .int .i64 a0_5, .int .i64 a0_6] 52 (0, 0)) (bx (blk_far (bx BK432.out) NB432_434.out _)) hb); have n4_ := ak (blk_below (g := gb433) (o := .cells #[.int .i64 0, .string ⟨#[]⟩, .string ⟨#[]⟩, .string ⟨#[]⟩, .string ⟨#[]⟩, .string ⟨#[]⟩] 50 (0, 0)) (bx (blk_far (bx BK433.out) NB433_434.out _)) hb); have n5_ := ak (blk_below (g := gb434) (o := .cells #[.int .i64 (wrap64 (1 + (Int.tmod (wrap64 ((Int.tmod a0_0 7) + 7)) 7))), .string t541, .string t545, .string ⟨#[]⟩, .string ⟨#[]⟩, .string ⟨#[]⟩] 50 (0, 0)) (bx (blk_put (cs := #[.int .i64 (wrap64 (1 + (Int.tmod (wrap64 ((Int.tmod a0_0 7) + 7)) 7))), .string t541, .string ⟨#[]⟩, .string ⟨#[]⟩, .string ⟨#[]⟩, .string ⟨#[]⟩]) (bx BK434.out) 2 _ rfl)) hb); have n6_ := ak (below_step bq hb); clear HO540; clear HO544; clear BK432; clear BK433; clear BK434; clear HB; have HO540 := n0_; have HO544 := n1_; have HO548 := n2_; have BK432 := n3_; have BK433 := n4_; have BK434 := n5_; have HB := n6_; clear n0_ n1_ n2_ n3_ n4_ n5_ n6_; clear hb ho213; obtain ⟨hcz214_0, hcz214_1, hcz214_2, hcz214_3, hcz214_4, hcz214_5, hcz214_6⟩ := cz7 BK432.out; obtain ⟨hfz214_0, hfz214_1, hfz214_2, hfz214_3, hfz214_4, hfz214_5, hfz214_6⟩ := fz7 BK432.out; obtain ⟨Ao215, co215, eo215⟩ := Kd.R_slice HO548.out; subst eo215) | ((with_reducible refine gate_callee (f := 56) rfl ?_); refine goesL_ (some 27) rfl rfl Tryd.func56 (by kernel_rfl) rfl #[.slice Ao215 y546.length co215, .int .i64 a0_3] rfl mq ?_; (with_reducible refine (isoglossref06_Pick.calls _ _ y546 a0_3 t549 _ ?side1 ?side2 A192.out).mono ?_); (case side1 => repeat (first | exact (Kd.R_reads' HO548.out).2.2 | (with_reducible refine Kd.C_alloc ?_ _) | (with_reducible refine Kd.C_drewN ?_ _) | (with_reducible refine Kd.C_drew ?_))); (case side2 => exact (Kd.R_reads' HO548.out).2.1); rintro e w' ⟨rfl, ⟨nd, rfl⟩⟩; refine ⟨_, rfl, ?_⟩; (try (rw [drewN_self w212]; generalize hq_ : World.drewN w212 _ = w212; have n0_ : Aside0 (Kd.R Kd.string 9 w212 w.heap.size (fun k_ => some k_ ≠ (.slice Ao210 y542.length co210 : Value).ownBlock ∧ some k_ ≠ (.slice Ao215 y546.length co215 : Value).ownBlock) (.slice Ao205 y538.length co205) y538) := ⟨by rw [← hq_]; exact (rx (Kd.R_mono HO540.out (fun _ hk => ⟨hk.1.2, hk.2⟩)))⟩; have n1_ : Aside0 (Kd.R Kd.string 9 w212 w.heap.size (fun k_ => some k_ ≠ (.slice Ao205 y538.length co205 : Value).ownBlock ∧ some k_ ≠ (.slice Ao215 y546.length co215 : Value).ownBlock) (.slice Ao210 y542.length co210) y542) := ⟨by rw [← hq_]; exact (rx (Kd.R_mono HO544.out (fun _ hk => ⟨hk.1.2, hk.2⟩)))⟩; have n2_ : Aside0 (Kd.R Kd.string 9 w212 w.heap.size (fun k_ => some k_ ≠ (.slice Ao205 y538.length co205 : Value).ownBlock ∧ some k_ ≠ (.slice Ao210 y542.length co210 : Value).ownBlock) (.slice Ao215 y546.length co215) y546) := ⟨by rw [← hq_]; exact (rx (Kd.R_mono HO548.out (fun _ hk => ⟨hk.1.2, hk.2⟩)))⟩; have n3_ : Aside0 (w212.heap[gb432]? = some (.cells #[.int .i64 a0_0, .int .i64 a0_1, .int .i64 a0_2, .int .i64 a0_3, .int .i64 a0_4, .int .i64 a0_5, .int .i64 a0_6] 52 (0, 0))) := ⟨by rw [← hq_]; exact (bx BK432.out)⟩; have n4_ : Aside0 (w212.heap[gb433]? = some (.cells #[.int .i64 0, .string ⟨#[]⟩, .string ⟨#[]⟩, .string ⟨#[]⟩, .string ⟨#[]⟩, .string ⟨#[]⟩] 50 (0, 0))) := ⟨by rw [← hq_]; exact (bx BK433.out)⟩; have n5_ : Aside0 (w212.heap[gb434]? = some (.cells #[.int .i64 (wrap64 (1 + (Int.tmod (wrap64 ((Int.tmod a0_0 7) + 7)) 7))), .string t541, .string t545, .string ⟨#[]⟩, .string ⟨#[]⟩, .string ⟨#[]⟩] 50 (0, 0))) := ⟨by rw [← hq_]; exact (bx BK434.out)⟩; have n6_ : Aside0 (Below w.heap.size w w212) := ⟨by rw [← hq_]; exact bq⟩; clear HO540 HO544 HO548 BK432 BK433 BK434 HB hq_; have HO540 := n0_; have HO544 := n1_; have HO548 := n2_; have BK432 := n3_; have BK433 := n4_; have BK434 := n5_; have HB := n6_; clear n0_ n1_ n2_ n3_ n4_ n5_ n6_; obtain ⟨hczq_0, hczq_1, hczq_2, hczq_3, hczq_4, hczq_5, hczq_6⟩ := cz7 BK432.out)); obtain ⟨hcz216_0, hcz216_1, hcz216_2, hcz216_3, hcz216_4, hcz216_5⟩ := cz6 BK434.out; obtain ⟨hfz216_0, hfz216_1, hfz216_2, hfz216_3, hfz216_4, hfz216_5⟩ := fz6 BK434.out; (try clear A192)) | ((with_reducible refine gate_callee (f := 63) rfl ?_); refine goesL_ (some 143) rfl rfl Tryd.func63 (by kernel_rfl) rfl #[.agg #[.int .i64 (wrap64 (1 + (Int.tmod (wrap64 ((Int.tmod a0_0 7) + 7)) 7))), .string t541, .string t545, .string t549, .string ⟨#[]⟩, .string ⟨#[]⟩], .int .i64 (Int.tmod (wrap64 ((Int.tmod a0_6 9) + 9)) 9)] rfl mq ?_; (with_reducible refine (isoglossref12_spoilt.calls k (wrap64 (1 + (Int.tmod (wrap64 ((Int.tmod a0_0 7) + 7)) 7))) t541 t545 t549 (⟨#[]⟩ : ByteArray) (⟨#[]⟩ : ByteArray) (Int.tmod (wrap64 ((Int.tmod a0_6 9) + 9)) 9) t550 t551 t552 t553 t554 t555 _ A193.out).mono ?_); rintro e w217 ⟨rfl, hb⟩; refine ⟨_, rfl, ?_⟩; have n0_ := ak (Kd.R_below (rx ((Kd.R_mono (Kd.R_far (p := ⟨gb434, 3, none⟩) (Kd.R_types HO540.out BK434.out (by decide)) (fun _ hk => hk.2) (.string t549)) (fun _ h_ => h_.1)))) hb); have n1_ := ak (Kd.R_below (rx ((Kd.R_mono (Kd.R_far (p := ⟨gb434, 3, none⟩) (Kd.R_types HO544.out BK434.out (by decide)) (fun _ hk => hk.2) (.string t549)) (fun _ h_ => h_.1)))) hb); have n2_ := ak (Kd.R_below (rx ((Kd.R_mono (Kd.R_far (p := ⟨gb434, 3, none⟩) (Kd.R_types HO548.out BK434.out (by decide)) (fun _ hk => hk.2) (.string t549)) (fun _ h_ => h_.1)))) hb); have n3_ := ak (blk_below (g := gb432) (o := .cells #[.int .i64 a0_0, .int .i64 a0_1, .int .i64 a0_2, .int .i64 a0_3, .int .i64 a0_4, .int .i64 a0_5, .int .i64 a0_6] 52 (0, 0)) (bx (blk_far (bx BK432.out) NB432_434.out _)) hb); have n4_ := ak (blk_below (g := gb433) (o := .cells #[.int .i64 0, .string ⟨#[]⟩, .string ⟨#[]⟩, .string ⟨#[]⟩, .string ⟨#[]⟩, .string ⟨#[]⟩] 50 (0, 0)) (bx (blk_far (bx BK433.out) NB433_434.out _)) hb); have n5_ := ak (blk_below (g := gb434) (o := .cells #[.int .i64 (wrap64 (1 + (Int.tmod (wrap64 ((Int.tmod a0_0 7) + 7)) 7))), .string t541, .string t545, .string t549, .string ⟨#[]⟩, .string ⟨#[]⟩] 50 (0, 0)) (bx (blk_put (cs := #[.int .i64 (wrap64 (1 + (Int.tmod (wrap64 ((Int.tmod a0_0 7) + 7)) 7))), .string t541, .string t545, .string ⟨#[]⟩, .string ⟨#[]⟩, .string ⟨#[]⟩]) (bx BK434.out) 3 _ rfl)) hb); have n6_ := ak (below_step bq hb); clear HO540; clear HO544; clear HO548; clear BK432; clear BK433; clear BK434; clear HB; have HO540 := n0_; have HO544 := n1_; have HO548 := n2_; have BK432 := n3_; have BK433 := n4_; have BK434 := n5_; have HB := n6_; clear n0_ n1_ n2_ n3_ n4_ n5_ n6_; (try clear hb); (try clear hb2); (try clear hk); (try clear hi); obtain ⟨hcz218_0, hcz218_1, hcz218_2, hcz218_3, hcz218_4, hcz218_5⟩ := cz6 BK433.out; obtain ⟨hfz218_0, hfz218_1, hfz218_2, hfz218_3, hfz218_4, hfz218_5⟩ := fz6 BK433.out; (try clear A193)))
       refine bodyPost_ret (results_cell_row rfl _ _ gb433 50 #[.int .i64 t550, .string t551, .string t552, .string t553, .string t554, .string t555] (0, 0) _ rfl (bx (blk_put (cs := #[.int .i64 t550, .string t551, .string t552, .string t553, .string t554, .string ⟨#[]⟩]) (bx (blk_put (cs := #[.int .i64 t550, .string t551, .string t552, .string t553, .string ⟨#[]⟩, .string ⟨#[]⟩]) (bx (blk_put (cs := #[.int .i64 t550, .string t551, .string t552, .string ⟨#[]⟩, .string ⟨#[]⟩, .string ⟨#[]⟩]) (bx (blk_put (cs := #[.int .i64 t550, .string t551, .string ⟨#[]⟩, .string ⟨#[]⟩, .string ⟨#[]⟩, .string ⟨#[]⟩]) (bx (blk_put (cs := #[.int .i64 t550, .string ⟨#[]⟩, .string ⟨#[]⟩, .string ⟨#[]⟩, .string ⟨#[]⟩, .string ⟨#[]⟩]) (bx (blk_put (cs := #[.int .i64 0, .string ⟨#[]⟩, .string ⟨#[]⟩, .string ⟨#[]⟩, .string ⟨#[]⟩, .string ⟨#[]⟩]) (bx BK433.out) 0 _ rfl)) 1 _ rfl)) 2 _ rfl)) 3 _ rfl)) 4 _ rfl)) 5 _ rfl)) Tryd.underlying50 rfl (by kernel_rfl)) rfl ?_
       exact ⟨by first | rfl | (simp [errW_none, errW_some] <;> rfl) | (simp [*, errW_none, errW_some] <;> rfl), bq⟩

end Go.Proofs.YtmbfnbnlajchmaaDoor.P
