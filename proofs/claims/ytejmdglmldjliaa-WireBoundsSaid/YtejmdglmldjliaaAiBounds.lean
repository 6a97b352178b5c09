/-
  WireBounds: every run ends in true; so does the model's call.
-/
import Derived.Test.YtejmdglmldjliaaAiBounds0
import Derived.Test.YtejmdglmldjliaaAiBounds1
import Derived.Test.YtejmdglmldjliaaAiBounds2
import Derived.Test.YtejmdglmldjliaaAiBounds3
import Derived.Test.YtejmdglmldjliaaAiBounds4
import Derived.Test.YtejmdglmldjliaaAiBounds5
import Derived.Test.YtejmdglmldjliaaAiBounds6
import Derived.Test.YtejmdglmldjliaaAiBounds7
import Derived.Test.YtejmdglmldjliaaAiBounds8
import Derived.Test.YtejmdglmldjliaaAiBounds9
import Derived.Test.YtejmdglmldjliaaAiBounds10
import Derived.Test.YtejmdglmldjliaaAiBounds11
import Derived.Test.YtejmdglmldjliaaAiBounds12
import Derived.Test.YtejmdglmldjliaaAiBounds13
import Derived.Test.YtejmdglmldjliaaAiBounds14
import Derived.Test.YtejmdglmldjliaaAiBounds15
namespace Go.Proofs.Ytejmdglmldjliaa.Ae
open Go.AE Go.RowKit
set_option maxRecDepth 1000000
set_option linter.unusedVariables false
theorem bounds_0_15 (i : Nat) (h1 : 0 ≤ i) (h2 : i < 15) : boundsAll i = true := span_spec bounds_0 i h1 (by omega)
theorem bounds_15_30 (i : Nat) (h1 : 15 ≤ i) (h2 : i < 30) : boundsAll i = true := span_spec bounds_15 i h1 (by omega)
theorem bounds_0_30 (i : Nat) (h1 : 0 ≤ i) (h2 : i < 30) : boundsAll i = true := (Nat.lt_or_ge i 15).elim (fun h => bounds_0_15 i h1 h) fun h => bounds_15_30 i h h2
theorem bounds_30_45 (i : Nat) (h1 : 30 ≤ i) (h2 : i < 45) : boundsAll i = true := span_spec bounds_30 i h1 (by omega)
theorem bounds_45_60 (i : Nat) (h1 : 45 ≤ i) (h2 : i < 60) : boundsAll i = true := span_spec bounds_45 i h1 (by omega)
theorem bounds_30_60 (i : Nat) (h1 : 30 ≤ i) (h2 : i < 60) : boundsAll i = true := (Nat.lt_or_ge i 45).elim (fun h => bounds_30_45 i h1 h) fun h => bounds_45_60 i h h2
theorem bounds_0_60 (i : Nat) (h1 : 0 ≤ i) (h2 : i < 60) : boundsAll i = true := (Nat.lt_or_ge i 30).elim (fun h => bounds_0_30 i h1 h) fun h => bounds_30_60 i h h2
theorem bounds_60_75 (i : Nat) (h1 : 60 ≤ i) (h2 : i < 75) : boundsAll i = true := span_spec bounds_60 i h1 (by omega)
theorem bounds_75_90 (i : Nat) (h1 : 75 ≤ i) (h2 : i < 90) : boundsAll i = true := span_spec bounds_75 i h1 (by omega)
theorem bounds_60_90 (i : Nat) (h1 : 60 ≤ i) (h2 : i < 90) : boundsAll i = true := (Nat.lt_or_ge i 75).elim (fun h => bounds_60_75 i h1 h) fun h => bounds_75_90 i h h2
theorem bounds_90_105 (i : Nat) (h1 : 90 ≤ i) (h2 : i < 105) : boundsAll i = true := span_spec bounds_90 i h1 (by omega)
theorem bounds_105_120 (i : Nat) (h1 : 105 ≤ i) (h2 : i < 120) : boundsAll i = true := span_spec bounds_105 i h1 (by omega)
theorem bounds_90_120 (i : Nat) (h1 : 90 ≤ i) (h2 : i < 120) : boundsAll i = true := (Nat.lt_or_ge i 105).elim (fun h => bounds_90_105 i h1 h) fun h => bounds_105_120 i h h2
theorem bounds_60_120 (i : Nat) (h1 : 60 ≤ i) (h2 : i < 120) : boundsAll i = true := (Nat.lt_or_ge i 90).elim (fun h => bounds_60_90 i h1 h) fun h => bounds_90_120 i h h2
theorem bounds_0_120 (i : Nat) (h1 : 0 ≤ i) (h2 : i < 120) : boundsAll i = true := (Nat.lt_or_ge i 60).elim (fun h => bounds_0_60 i h1 h) fun h => bounds_60_120 i h h2
theorem bounds_120_135 (i : Nat) (h1 : 120 ≤ i) (h2 : i < 135) : boundsAll i = true := span_spec bounds_120 i h1 (by omega)
theorem bounds_135_150 (i : Nat) (h1 : 135 ≤ i) (h2 : i < 150) : boundsAll i = true := span_spec bounds_135 i h1 (by omega)
theorem bounds_120_150 (i : Nat) (h1 : 120 ≤ i) (h2 : i < 150) : boundsAll i = true := (Nat.lt_or_ge i 135).elim (fun h => bounds_120_135 i h1 h) fun h => bounds_135_150 i h h2
theorem bounds_150_165 (i : Nat) (h1 : 150 ≤ i) (h2 : i < 165) : boundsAll i = true := span_spec bounds_150 i h1 (by omega)
theorem bounds_165_180 (i : Nat) (h1 : 165 ≤ i) (h2 : i < 180) : boundsAll i = true := span_spec bounds_165 i h1 (by omega)
theorem bounds_150_180 (i : Nat) (h1 : 150 ≤ i) (h2 : i < 180) : boundsAll i = true := (Nat.lt_or_ge i 165).elim (fun h => bounds_150_165 i h1 h) fun h => bounds_165_180 i h h2
theorem bounds_120_180 (i : Nat) (h1 : 120 ≤ i) (h2 : i < 180) : boundsAll i = true := (Nat.lt_or_ge i 150).elim (fun h => bounds_120_150 i h1 h) fun h => bounds_150_180 i h h2
theorem bounds_180_195 (i : Nat) (h1 : 180 ≤ i) (h2 : i < 195) : boundsAll i = true := span_spec bounds_180 i h1 (by omega)
theorem bounds_195_210 (i : Nat) (h1 : 195 ≤ i) (h2 : i < 210) : boundsAll i = true := span_spec bounds_195 i h1 (by omega)
theorem bounds_180_210 (i : Nat) (h1 : 180 ≤ i) (h2 : i < 210) : boundsAll i = true := (Nat.lt_or_ge i 195).elim (fun h => bounds_180_195 i h1 h) fun h => bounds_195_210 i h h2
theorem bounds_210_225 (i : Nat) (h1 : 210 ≤ i) (h2 : i < 225) : boundsAll i = true := span_spec bounds_210 i h1 (by omega)
theorem bounds_225_240 (i : Nat) (h1 : 225 ≤ i) (h2 : i < 240) : boundsAll i = true := span_spec bounds_225 i h1 (by omega)
theorem bounds_210_240 (i : Nat) (h1 : 210 ≤ i) (h2 : i < 240) : boundsAll i = true := (Nat.lt_or_ge i 225).elim (fun h => bounds_210_225 i h1 h) fun h => bounds_225_240 i h h2
theorem bounds_180_240 (i : Nat) (h1 : 180 ≤ i) (h2 : i < 240) : boundsAll i = true := (Nat.lt_or_ge i 210).elim (fun h => bounds_180_210 i h1 h) fun h => bounds_210_240 i h h2
theorem bounds_120_240 (i : Nat) (h1 : 120 ≤ i) (h2 : i < 240) : boundsAll i = true := (Nat.lt_or_ge i 180).elim (fun h => bounds_120_180 i h1 h) fun h => bounds_180_240 i h h2
theorem bounds_0_240 (i : Nat) (h1 : 0 ≤ i) (h2 : i < 240) : boundsAll i = true := (Nat.lt_or_ge i 120).elim (fun h => bounds_0_120 i h1 h) fun h => bounds_120_240 i h h2
theorem bounds_240_255 (i : Nat) (h1 : 240 ≤ i) (h2 : i < 255) : boundsAll i = true := span_spec bounds_240 i h1 (by omega)
theorem bounds_255_270 (i : Nat) (h1 : 255 ≤ i) (h2 : i < 270) : boundsAll i = true := span_spec bounds_255 i h1 (by omega)
theorem bounds_240_270 (i : Nat) (h1 : 240 ≤ i) (h2 : i < 270) : boundsAll i = true := (Nat.lt_or_ge i 255).elim (fun h => bounds_240_255 i h1 h) fun h => bounds_255_270 i h h2
theorem bounds_270_285 (i : Nat) (h1 : 270 ≤ i) (h2 : i < 285) : boundsAll i = true := span_spec bounds_270 i h1 (by omega)
theorem bounds_285_300 (i : Nat) (h1 : 285 ≤ i) (h2 : i < 300) : boundsAll i = true := span_spec bounds_285 i h1 (by omega)
theorem bounds_270_300 (i : Nat) (h1 : 270 ≤ i) (h2 : i < 300) : boundsAll i = true := (Nat.lt_or_ge i 285).elim (fun h => bounds_270_285 i h1 h) fun h => bounds_285_300 i h h2
theorem bounds_240_300 (i : Nat) (h1 : 240 ≤ i) (h2 : i < 300) : boundsAll i = true := (Nat.lt_or_ge i 270).elim (fun h => bounds_240_270 i h1 h) fun h => bounds_270_300 i h h2
theorem bounds_300_315 (i : Nat) (h1 : 300 ≤ i) (h2 : i < 315) : boundsAll i = true := span_spec bounds_300 i h1 (by omega)
theorem bounds_315_330 (i : Nat) (h1 : 315 ≤ i) (h2 : i < 330) : boundsAll i = true := span_spec bounds_315 i h1 (by omega)
theorem bounds_300_330 (i : Nat) (h1 : 300 ≤ i) (h2 : i < 330) : boundsAll i = true := (Nat.lt_or_ge i 315).elim (fun h => bounds_300_315 i h1 h) fun h => bounds_315_330 i h h2
theorem bounds_330_345 (i : Nat) (h1 : 330 ≤ i) (h2 : i < 345) : boundsAll i = true := span_spec bounds_330 i h1 (by omega)
theorem bounds_345_360 (i : Nat) (h1 : 345 ≤ i) (h2 : i < 360) : boundsAll i = true := span_spec bounds_345 i h1 (by omega)
theorem bounds_330_360 (i : Nat) (h1 : 330 ≤ i) (h2 : i < 360) : boundsAll i = true := (Nat.lt_or_ge i 345).elim (fun h => bounds_330_345 i h1 h) fun h => bounds_345_360 i h h2
theorem bounds_300_360 (i : Nat) (h1 : 300 ≤ i) (h2 : i < 360) : boundsAll i = true := (Nat.lt_or_ge i 330).elim (fun h => bounds_300_330 i h1 h) fun h => bounds_330_360 i h h2
theorem bounds_240_360 (i : Nat) (h1 : 240 ≤ i) (h2 : i < 360) : boundsAll i = true := (Nat.lt_or_ge i 300).elim (fun h => bounds_240_300 i h1 h) fun h => bounds_300_360 i h h2
theorem bounds_360_375 (i : Nat) (h1 : 360 ≤ i) (h2 : i < 375) : boundsAll i = true := span_spec bounds_360 i h1 (by omega)
theorem bounds_375_390 (i : Nat) (h1 : 375 ≤ i) (h2 : i < 390) : boundsAll i = true := span_spec bounds_375 i h1 (by omega)
theorem bounds_360_390 (i : Nat) (h1 : 360 ≤ i) (h2 : i < 390) : boundsAll i = true := (Nat.lt_or_ge i 375).elim (fun h => bounds_360_375 i h1 h) fun h => bounds_375_390 i h h2
theorem bounds_390_405 (i : Nat) (h1 : 390 ≤ i) (h2 : i < 405) : boundsAll i = true := span_spec bounds_390 i h1 (by omega)
theorem bounds_405_420 (i : Nat) (h1 : 405 ≤ i) (h2 : i < 420) : boundsAll i = true := span_spec bounds_405 i h1 (by omega)
theorem bounds_390_420 (i : Nat) (h1 : 390 ≤ i) (h2 : i < 420) : boundsAll i = true := (Nat.lt_or_ge i 405).elim (fun h => bounds_390_405 i h1 h) fun h => bounds_405_420 i h h2
theorem bounds_360_420 (i : Nat) (h1 : 360 ≤ i) (h2 : i < 420) : boundsAll i = true := (Nat.lt_or_ge i 390).elim (fun h => bounds_360_390 i h1 h) fun h => bounds_390_420 i h h2
theorem bounds_420_435 (i : Nat) (h1 : 420 ≤ i) (h2 : i < 435) : boundsAll i = true := span_spec bounds_420 i h1 (by omega)
theorem bounds_435_450 (i : Nat) (h1 : 435 ≤ i) (h2 : i < 450) : boundsAll i = true := span_spec bounds_435 i h1 (by omega)
theorem bounds_420_450 (i : Nat) (h1 : 420 ≤ i) (h2 : i < 450) : boundsAll i = true := (Nat.lt_or_ge i 435).elim (fun h => bounds_420_435 i h1 h) fun h => bounds_435_450 i h h2
theorem bounds_450_465 (i : Nat) (h1 : 450 ≤ i) (h2 : i < 465) : boundsAll i = true := span_spec bounds_450 i h1 (by omega)
theorem bounds_465_480 (i : Nat) (h1 : 465 ≤ i) (h2 : i < 480) : boundsAll i = true := span_spec bounds_465 i h1 (by omega)
theorem bounds_480_495 (i : Nat) (h1 : 480 ≤ i) (h2 : i < 495) : boundsAll i = true := span_spec bounds_480 i h1 (by omega)
theorem bounds_465_495 (i : Nat) (h1 : 465 ≤ i) (h2 : i < 495) : boundsAll i = true := (Nat.lt_or_ge i 480).elim (fun h => bounds_465_480 i h1 h) fun h => bounds_480_495 i h h2
theorem bounds_450_495 (i : Nat) (h1 : 450 ≤ i) (h2 : i < 495) : boundsAll i = true := (Nat.lt_or_ge i 465).elim (fun h => bounds_450_465 i h1 h) fun h => bounds_465_495 i h h2
theorem bounds_420_495 (i : Nat) (h1 : 420 ≤ i) (h2 : i < 495) : boundsAll i = true := (Nat.lt_or_ge i 450).elim (fun h => bounds_420_450 i h1 h) fun h => bounds_450_495 i h h2
theorem bounds_360_495 (i : Nat) (h1 : 360 ≤ i) (h2 : i < 495) : boundsAll i = true := (Nat.lt_or_ge i 420).elim (fun h => bounds_360_420 i h1 h) fun h => bounds_420_495 i h h2
theorem bounds_240_495 (i : Nat) (h1 : 240 ≤ i) (h2 : i < 495) : boundsAll i = true := (Nat.lt_or_ge i 360).elim (fun h => bounds_240_360 i h1 h) fun h => bounds_360_495 i h h2
theorem bounds_0_495 (i : Nat) (h1 : 0 ≤ i) (h2 : i < 495) : boundsAll i = true := (Nat.lt_or_ge i 240).elim (fun h => bounds_0_240 i h1 h) fun h => bounds_240_495 i h h2
theorem bounds_495_510 (i : Nat) (h1 : 495 ≤ i) (h2 : i < 510) : boundsAll i = true := span_spec bounds_495 i h1 (by omega)
theorem bounds_510_525 (i : Nat) (h1 : 510 ≤ i) (h2 : i < 525) : boundsAll i = true := span_spec bounds_510 i h1 (by omega)
theorem bounds_495_525 (i : Nat) (h1 : 495 ≤ i) (h2 : i < 525) : boundsAll i = true := (Nat.lt_or_ge i 510).elim (fun h => bounds_495_510 i h1 h) fun h => bounds_510_525 i h h2
theorem bounds_525_540 (i : Nat) (h1 : 525 ≤ i) (h2 : i < 540) : boundsAll i = true := span_spec bounds_525 i h1 (by omega)
theorem bounds_540_555 (i : Nat) (h1 : 540 ≤ i) (h2 : i < 555) : boundsAll i = true := span_spec bounds_540 i h1 (by omega)
theorem bounds_525_555 (i : Nat) (h1 : 525 ≤ i) (h2 : i < 555) : boundsAll i = true := (Nat.lt_or_ge i 540).elim (fun h => bounds_525_540 i h1 h) fun h => bounds_540_555 i h h2
theorem bounds_495_555 (i : Nat) (h1 : 495 ≤ i) (h2 : i < 555) : boundsAll i = true := (Nat.lt_or_ge i 525).elim (fun h => bounds_495_525 i h1 h) fun h => bounds_525_555 i h h2
theorem bounds_555_570 (i : Nat) (h1 : 555 ≤ i) (h2 : i < 570) : boundsAll i = true := span_spec bounds_555 i h1 (by omega)
theorem bounds_570_585 (i : Nat) (h1 : 570 ≤ i) (h2 : i < 585) : boundsAll i = true := span_spec bounds_570 i h1 (by omega)
theorem bounds_555_585 (i : Nat) (h1 : 555 ≤ i) (h2 : i < 585) : boundsAll i = true := (Nat.lt_or_ge i 570).elim (fun h => bounds_555_570 i h1 h) fun h => bounds_570_585 i h h2
theorem bounds_585_600 (i : Nat) (h1 : 585 ≤ i) (h2 : i < 600) : boundsAll i = true := span_spec bounds_585 i h1 (by omega)
theorem bounds_600_615 (i : Nat) (h1 : 600 ≤ i) (h2 : i < 615) : boundsAll i = true := span_spec bounds_600 i h1 (by omega)
theorem bounds_585_615 (i : Nat) (h1 : 585 ≤ i) (h2 : i < 615) : boundsAll i = true := (Nat.lt_or_ge i 600).elim (fun h => bounds_585_600 i h1 h) fun h => bounds_600_615 i h h2
theorem bounds_555_615 (i : Nat) (h1 : 555 ≤ i) (h2 : i < 615) : boundsAll i = true := (Nat.lt_or_ge i 585).elim (fun h => bounds_555_585 i h1 h) fun h => bounds_585_615 i h h2
theorem bounds_495_615 (i : Nat) (h1 : 495 ≤ i) (h2 : i < 615) : boundsAll i = true := (Nat.lt_or_ge i 555).elim (fun h => bounds_495_555 i h1 h) fun h => bounds_555_615 i h h2
theorem bounds_615_630 (i : Nat) (h1 : 615 ≤ i) (h2 : i < 630) : boundsAll i = true := span_spec bounds_615 i h1 (by omega)
theorem bounds_630_645 (i : Nat) (h1 : 630 ≤ i) (h2 : i < 645) : boundsAll i = true := span_spec bounds_630 i h1 (by omega)
theorem bounds_615_645 (i : Nat) (h1 : 615 ≤ i) (h2 : i < 645) : boundsAll i = true := (Nat.lt_or_ge i 630).elim (fun h => bounds_615_630 i h1 h) fun h => bounds_630_645 i h h2
theorem bounds_645_660 (i : Nat) (h1 : 645 ≤ i) (h2 : i < 660) : boundsAll i = true := span_spec bounds_645 i h1 (by omega)
theorem bounds_660_675 (i : Nat) (h1 : 660 ≤ i) (h2 : i < 675) : boundsAll i = true := span_spec bounds_660 i h1 (by omega)
theorem bounds_645_675 (i : Nat) (h1 : 645 ≤ i) (h2 : i < 675) : boundsAll i = true := (Nat.lt_or_ge i 660).elim (fun h => bounds_645_660 i h1 h) fun h => bounds_660_675 i h h2
theorem bounds_615_675 (i : Nat) (h1 : 615 ≤ i) (h2 : i < 675) : boundsAll i = true := (Nat.lt_or_ge i 645).elim (fun h => bounds_615_645 i h1 h) fun h => bounds_645_675 i h h2
theorem bounds_675_690 (i : Nat) (h1 : 675 ≤ i) (h2 : i < 690) : boundsAll i = true := span_spec bounds_675 i h1 (by omega)
theorem bounds_690_705 (i : Nat) (h1 : 690 ≤ i) (h2 : i < 705) : boundsAll i = true := span_spec bounds_690 i h1 (by omega)
theorem bounds_675_705 (i : Nat) (h1 : 675 ≤ i) (h2 : i < 705) : boundsAll i = true := (Nat.lt_or_ge i 690).elim (fun h => bounds_675_690 i h1 h) fun h => bounds_690_705 i h h2
theorem bounds_705_720 (i : Nat) (h1 : 705 ≤ i) (h2 : i < 720) : boundsAll i = true := span_spec bounds_705 i h1 (by omega)
theorem bounds_720_735 (i : Nat) (h1 : 720 ≤ i) (h2 : i < 735) : boundsAll i = true := span_spec bounds_720 i h1 (by omega)
theorem bounds_735_750 (i : Nat) (h1 : 735 ≤ i) (h2 : i < 750) : boundsAll i = true := span_spec bounds_735 i h1 (by omega)
theorem bounds_720_750 (i : Nat) (h1 : 720 ≤ i) (h2 : i < 750) : boundsAll i = true := (Nat.lt_or_ge i 735).elim (fun h => bounds_720_735 i h1 h) fun h => bounds_735_750 i h h2
theorem bounds_705_750 (i : Nat) (h1 : 705 ≤ i) (h2 : i < 750) : boundsAll i = true := (Nat.lt_or_ge i 720).elim (fun h => bounds_705_720 i h1 h) fun h => bounds_720_750 i h h2
theorem bounds_675_750 (i : Nat) (h1 : 675 ≤ i) (h2 : i < 750) : boundsAll i = true := (Nat.lt_or_ge i 705).elim (fun h => bounds_675_705 i h1 h) fun h => bounds_705_750 i h h2
theorem bounds_615_750 (i : Nat) (h1 : 615 ≤ i) (h2 : i < 750) : boundsAll i = true := (Nat.lt_or_ge i 675).elim (fun h => bounds_615_675 i h1 h) fun h => bounds_675_750 i h h2
theorem bounds_495_750 (i : Nat) (h1 : 495 ≤ i) (h2 : i < 750) : boundsAll i = true := (Nat.lt_or_ge i 615).elim (fun h => bounds_495_615 i h1 h) fun h => bounds_615_750 i h h2
theorem bounds_750_765 (i : Nat) (h1 : 750 ≤ i) (h2 : i < 765) : boundsAll i = true := span_spec bounds_750 i h1 (by omega)
theorem bounds_765_780 (i : Nat) (h1 : 765 ≤ i) (h2 : i < 780) : boundsAll i = true := span_spec bounds_765 i h1 (by omega)
theorem bounds_750_780 (i : Nat) (h1 : 750 ≤ i) (h2 : i < 780) : boundsAll i = true := (Nat.lt_or_ge i 765).elim (fun h => bounds_750_765 i h1 h) fun h => bounds_765_780 i h h2
theorem bounds_780_795 (i : Nat) (h1 : 780 ≤ i) (h2 : i < 795) : boundsAll i = true := span_spec bounds_780 i h1 (by omega)
theorem bounds_795_810 (i : Nat) (h1 : 795 ≤ i) (h2 : i < 810) : boundsAll i = true := span_spec bounds_795 i h1 (by omega)
theorem bounds_780_810 (i : Nat) (h1 : 780 ≤ i) (h2 : i < 810) : boundsAll i = true := (Nat.lt_or_ge i 795).elim (fun h => bounds_780_795 i h1 h) fun h => bounds_795_810 i h h2
theorem bounds_750_810 (i : Nat) (h1 : 750 ≤ i) (h2 : i < 810) : boundsAll i = true := (Nat.lt_or_ge i 780).elim (fun h => bounds_750_780 i h1 h) fun h => bounds_780_810 i h h2
theorem bounds_810_825 (i : Nat) (h1 : 810 ≤ i) (h2 : i < 825) : boundsAll i = true := span_spec bounds_810 i h1 (by omega)
theorem bounds_825_840 (i : Nat) (h1 : 825 ≤ i) (h2 : i < 840) : boundsAll i = true := span_spec bounds_825 i h1 (by omega)
theorem bounds_810_840 (i : Nat) (h1 : 810 ≤ i) (h2 : i < 840) : boundsAll i = true := (Nat.lt_or_ge i 825).elim (fun h => bounds_810_825 i h1 h) fun h => bounds_825_840 i h h2
theorem bounds_840_855 (i : Nat) (h1 : 840 ≤ i) (h2 : i < 855) : boundsAll i = true := span_spec bounds_840 i h1 (by omega)
theorem bounds_855_870 (i : Nat) (h1 : 855 ≤ i) (h2 : i < 870) : boundsAll i = true := span_spec bounds_855 i h1 (by omega)
theorem bounds_840_870 (i : Nat) (h1 : 840 ≤ i) (h2 : i < 870) : boundsAll i = true := (Nat.lt_or_ge i 855).elim (fun h => bounds_840_855 i h1 h) fun h => bounds_855_870 i h h2
theorem bounds_810_870 (i : Nat) (h1 : 810 ≤ i) (h2 : i < 870) : boundsAll i = true := (Nat.lt_or_ge i 840).elim (fun h => bounds_810_840 i h1 h) fun h => bounds_840_870 i h h2
theorem bounds_750_870 (i : Nat) (h1 : 750 ≤ i) (h2 : i < 870) : boundsAll i = true := (Nat.lt_or_ge i 810).elim (fun h => bounds_750_810 i h1 h) fun h => bounds_810_870 i h h2
theorem bounds_870_885 (i : Nat) (h1 : 870 ≤ i) (h2 : i < 885) : boundsAll i = true := span_spec bounds_870 i h1 (by omega)
theorem bounds_885_900 (i : Nat) (h1 : 885 ≤ i) (h2 : i < 900) : boundsAll i = true := span_spec bounds_885 i h1 (by omega)
theorem bounds_870_900 (i : Nat) (h1 : 870 ≤ i) (h2 : i < 900) : boundsAll i = true := (Nat.lt_or_ge i 885).elim (fun h => bounds_870_885 i h1 h) fun h => bounds_885_900 i h h2
theorem bounds_900_915 (i : Nat) (h1 : 900 ≤ i) (h2 : i < 915) : boundsAll i = true := span_spec bounds_900 i h1 (by omega)
theorem bounds_915_930 (i : Nat) (h1 : 915 ≤ i) (h2 : i < 930) : boundsAll i = true := span_spec bounds_915 i h1 (by omega)
theorem bounds_900_930 (i : Nat) (h1 : 900 ≤ i) (h2 : i < 930) : boundsAll i = true := (Nat.lt_or_ge i 915).elim (fun h => bounds_900_915 i h1 h) fun h => bounds_915_930 i h h2
theorem bounds_870_930 (i : Nat) (h1 : 870 ≤ i) (h2 : i < 930) : boundsAll i = true := (Nat.lt_or_ge i 900).elim (fun h => bounds_870_900 i h1 h) fun h => bounds_900_930 i h h2
theorem bounds_930_945 (i : Nat) (h1 : 930 ≤ i) (h2 : i < 945) : boundsAll i = true := span_spec bounds_930 i h1 (by omega)
theorem bounds_945_960 (i : Nat) (h1 : 945 ≤ i) (h2 : i < 960) : boundsAll i = true := span_spec bounds_945 i h1 (by omega)
theorem bounds_930_960 (i : Nat) (h1 : 930 ≤ i) (h2 : i < 960) : boundsAll i = true := (Nat.lt_or_ge i 945).elim (fun h => bounds_930_945 i h1 h) fun h => bounds_945_960 i h h2
theorem bounds_960_975 (i : Nat) (h1 : 960 ≤ i) (h2 : i < 975) : boundsAll i = true := span_spec bounds_960 i h1 (by omega)
theorem bounds_975_990 (i : Nat) (h1 : 975 ≤ i) (h2 : i < 990) : boundsAll i = true := span_spec bounds_975 i h1 (by omega)
theorem bounds_990_1005 (i : Nat) (h1 : 990 ≤ i) (h2 : i < 1005) : boundsAll i = true := span_spec bounds_990 i h1 (by omega)
theorem bounds_975_1005 (i : Nat) (h1 : 975 ≤ i) (h2 : i < 1005) : boundsAll i = true := (Nat.lt_or_ge i 990).elim (fun h => bounds_975_990 i h1 h) fun h => bounds_990_1005 i h h2
theorem bounds_960_1005 (i : Nat) (h1 : 960 ≤ i) (h2 : i < 1005) : boundsAll i = true := (Nat.lt_or_ge i 975).elim (fun h => bounds_960_975 i h1 h) fun h => bounds_975_1005 i h h2
theorem bounds_930_1005 (i : Nat) (h1 : 930 ≤ i) (h2 : i < 1005) : boundsAll i = true := (Nat.lt_or_ge i 960).elim (fun h => bounds_930_960 i h1 h) fun h => bounds_960_1005 i h h2
theorem bounds_870_1005 (i : Nat) (h1 : 870 ≤ i) (h2 : i < 1005) : boundsAll i = true := (Nat.lt_or_ge i 930).elim (fun h => bounds_870_930 i h1 h) fun h => bounds_930_1005 i h h2
theorem bounds_750_1005 (i : Nat) (h1 : 750 ≤ i) (h2 : i < 1005) : boundsAll i = true := (Nat.lt_or_ge i 870).elim (fun h => bounds_750_870 i h1 h) fun h => bounds_870_1005 i h h2
theorem bounds_495_1005 (i : Nat) (h1 : 495 ≤ i) (h2 : i < 1005) : boundsAll i = true := (Nat.lt_or_ge i 750).elim (fun h => bounds_495_750 i h1 h) fun h => bounds_750_1005 i h h2
theorem bounds_0_1005 (i : Nat) (h1 : 0 ≤ i) (h2 : i < 1005) : boundsAll i = true := (Nat.lt_or_ge i 495).elim (fun h => bounds_0_495 i h1 h) fun h => bounds_495_1005 i h h2
theorem bounds_1005_1020 (i : Nat) (h1 : 1005 ≤ i) (h2 : i < 1020) : boundsAll i = true := span_spec bounds_1005 i h1 (by omega)
theorem bounds_1020_1035 (i : Nat) (h1 : 1020 ≤ i) (h2 : i < 1035) : boundsAll i = true := span_spec bounds_1020 i h1 (by omega)
theorem bounds_1005_1035 (i : Nat) (h1 : 1005 ≤ i) (h2 : i < 1035) : boundsAll i = true := (Nat.lt_or_ge i 1020).elim (fun h => bounds_1005_1020 i h1 h) fun h => bounds_1020_1035 i h h2
theorem bounds_1035_1050 (i : Nat) (h1 : 1035 ≤ i) (h2 : i < 1050) : boundsAll i = true := span_spec bounds_1035 i h1 (by omega)
theorem bounds_1050_1065 (i : Nat) (h1 : 1050 ≤ i) (h2 : i < 1065) : boundsAll i = true := span_spec bounds_1050 i h1 (by omega)
theorem bounds_1035_1065 (i : Nat) (h1 : 1035 ≤ i) (h2 : i < 1065) : boundsAll i = true := (Nat.lt_or_ge i 1050).elim (fun h => bounds_1035_1050 i h1 h) fun h => bounds_1050_1065 i h h2
theorem bounds_1005_1065 (i : Nat) (h1 : 1005 ≤ i) (h2 : i < 1065) : boundsAll i = true := (Nat.lt_or_ge i 1035).elim (fun h => bounds_1005_1035 i h1 h) fun h => bounds_1035_1065 i h h2
theorem bounds_1065_1080 (i : Nat) (h1 : 1065 ≤ i) (h2 : i < 1080) : boundsAll i = true := span_spec bounds_1065 i h1 (by omega)
theorem bounds_1080_1095 (i : Nat) (h1 : 1080 ≤ i) (h2 : i < 1095) : boundsAll i = true := span_spec bounds_1080 i h1 (by omega)
theorem bounds_1065_1095 (i : Nat) (h1 : 1065 ≤ i) (h2 : i < 1095) : boundsAll i = true := (Nat.lt_or_ge i 1080).elim (fun h => bounds_1065_1080 i h1 h) fun h => bounds_1080_1095 i h h2
theorem bounds_1095_1110 (i : Nat) (h1 : 1095 ≤ i) (h2 : i < 1110) : boundsAll i = true := span_spec bounds_1095 i h1 (by omega)
theorem bounds_1110_1125 (i : Nat) (h1 : 1110 ≤ i) (h2 : i < 1125) : boundsAll i = true := span_spec bounds_1110 i h1 (by omega)
theorem bounds_1095_1125 (i : Nat) (h1 : 1095 ≤ i) (h2 : i < 1125) : boundsAll i = true := (Nat.lt_or_ge i 1110).elim (fun h => bounds_1095_1110 i h1 h) fun h => bounds_1110_1125 i h h2
theorem bounds_1065_1125 (i : Nat) (h1 : 1065 ≤ i) (h2 : i < 1125) : boundsAll i = true := (Nat.lt_or_ge i 1095).elim (fun h => bounds_1065_1095 i h1 h) fun h => bounds_1095_1125 i h h2
theorem bounds_1005_1125 (i : Nat) (h1 : 1005 ≤ i) (h2 : i < 1125) : boundsAll i = true := (Nat.lt_or_ge i 1065).elim (fun h => bounds_1005_1065 i h1 h) fun h => bounds_1065_1125 i h h2
theorem bounds_1125_1140 (i : Nat) (h1 : 1125 ≤ i) (h2 : i < 1140) : boundsAll i = true := span_spec bounds_1125 i h1 (by omega)
theorem bounds_1140_1155 (i : Nat) (h1 : 1140 ≤ i) (h2 : i < 1155) : boundsAll i = true := span_spec bounds_1140 i h1 (by omega)
theorem bounds_1125_1155 (i : Nat) (h1 : 1125 ≤ i) (h2 : i < 1155) : boundsAll i = true := (Nat.lt_or_ge i 1140).elim (fun h => bounds_1125_1140 i h1 h) fun h => bounds_1140_1155 i h h2
theorem bounds_1155_1170 (i : Nat) (h1 : 1155 ≤ i) (h2 : i < 1170) : boundsAll i = true := span_spec bounds_1155 i h1 (by omega)
theorem bounds_1170_1185 (i : Nat) (h1 : 1170 ≤ i) (h2 : i < 1185) : boundsAll i = true := span_spec bounds_1170 i h1 (by omega)
theorem bounds_1155_1185 (i : Nat) (h1 : 1155 ≤ i) (h2 : i < 1185) : boundsAll i = true := (Nat.lt_or_ge i 1170).elim (fun h => bounds_1155_1170 i h1 h) fun h => bounds_1170_1185 i h h2
theorem bounds_1125_1185 (i : Nat) (h1 : 1125 ≤ i) (h2 : i < 1185) : boundsAll i = true := (Nat.lt_or_ge i 1155).elim (fun h => bounds_1125_1155 i h1 h) fun h => bounds_1155_1185 i h h2
theorem bounds_1185_1200 (i : Nat) (h1 : 1185 ≤ i) (h2 : i < 1200) : boundsAll i = true := span_spec bounds_1185 i h1 (by omega)
theorem bounds_1200_1215 (i : Nat) (h1 : 1200 ≤ i) (h2 : i < 1215) : boundsAll i = true := span_spec bounds_1200 i h1 (by omega)
theorem bounds_1185_1215 (i : Nat) (h1 : 1185 ≤ i) (h2 : i < 1215) : boundsAll i = true := (Nat.lt_or_ge i 1200).elim (fun h => bounds_1185_1200 i h1 h) fun h => bounds_1200_1215 i h h2
theorem bounds_1215_1230 (i : Nat) (h1 : 1215 ≤ i) (h2 : i < 1230) : boundsAll i = true := span_spec bounds_1215 i h1 (by omega)
theorem bounds_1230_1245 (i : Nat) (h1 : 1230 ≤ i) (h2 : i < 1245) : boundsAll i = true := span_spec bounds_1230 i h1 (by omega)
theorem bounds_1215_1245 (i : Nat) (h1 : 1215 ≤ i) (h2 : i < 1245) : boundsAll i = true := (Nat.lt_or_ge i 1230).elim (fun h => bounds_1215_1230 i h1 h) fun h => bounds_1230_1245 i h h2
theorem bounds_1185_1245 (i : Nat) (h1 : 1185 ≤ i) (h2 : i < 1245) : boundsAll i = true := (Nat.lt_or_ge i 1215).elim (fun h => bounds_1185_1215 i h1 h) fun h => bounds_1215_1245 i h h2
theorem bounds_1125_1245 (i : Nat) (h1 : 1125 ≤ i) (h2 : i < 1245) : boundsAll i = true := (Nat.lt_or_ge i 1185).elim (fun h => bounds_1125_1185 i h1 h) fun h => bounds_1185_1245 i h h2
theorem bounds_1005_1245 (i : Nat) (h1 : 1005 ≤ i) (h2 : i < 1245) : boundsAll i = true := (Nat.lt_or_ge i 1125).elim (fun h => bounds_1005_1125 i h1 h) fun h => bounds_1125_1245 i h h2
theorem bounds_1245_1260 (i : Nat) (h1 : 1245 ≤ i) (h2 : i < 1260) : boundsAll i = true := span_spec bounds_1245 i h1 (by omega)
theorem bounds_1260_1275 (i : Nat) (h1 : 1260 ≤ i) (h2 : i < 1275) : boundsAll i = true := span_spec bounds_1260 i h1 (by omega)
theorem bounds_1245_1275 (i : Nat) (h1 : 1245 ≤ i) (h2 : i < 1275) : boundsAll i = true := (Nat.lt_or_ge i 1260).elim (fun h => bounds_1245_1260 i h1 h) fun h => bounds_1260_1275 i h h2
theorem bounds_1275_1290 (i : Nat) (h1 : 1275 ≤ i) (h2 : i < 1290) : boundsAll i = true := span_spec bounds_1275 i h1 (by omega)
theorem bounds_1290_1305 (i : Nat) (h1 : 1290 ≤ i) (h2 : i < 1305) : boundsAll i = true := span_spec bounds_1290 i h1 (by omega)
theorem bounds_1275_1305 (i : Nat) (h1 : 1275 ≤ i) (h2 : i < 1305) : boundsAll i = true := (Nat.lt_or_ge i 1290).elim (fun h => bounds_1275_1290 i h1 h) fun h => bounds_1290_1305 i h h2
theorem bounds_1245_1305 (i : Nat) (h1 : 1245 ≤ i) (h2 : i < 1305) : boundsAll i = true := (Nat.lt_or_ge i 1275).elim (fun h => bounds_1245_1275 i h1 h) fun h => bounds_1275_1305 i h h2
theorem bounds_1305_1320 (i : Nat) (h1 : 1305 ≤ i) (h2 : i < 1320) : boundsAll i = true := span_spec bounds_1305 i h1 (by omega)
theorem bounds_1320_1335 (i : Nat) (h1 : 1320 ≤ i) (h2 : i < 1335) : boundsAll i = true := span_spec bounds_1320 i h1 (by omega)
theorem bounds_1305_1335 (i : Nat) (h1 : 1305 ≤ i) (h2 : i < 1335) : boundsAll i = true := (Nat.lt_or_ge i 1320).elim (fun h => bounds_1305_1320 i h1 h) fun h => bounds_1320_1335 i h h2
theorem bounds_1335_1350 (i : Nat) (h1 : 1335 ≤ i) (h2 : i < 1350) : boundsAll i = true := span_spec bounds_1335 i h1 (by omega)
theorem bounds_1350_1365 (i : Nat) (h1 : 1350 ≤ i) (h2 : i < 1365) : boundsAll i = true := span_spec bounds_1350 i h1 (by omega)
theorem bounds_1335_1365 (i : Nat) (h1 : 1335 ≤ i) (h2 : i < 1365) : boundsAll i = true := (Nat.lt_or_ge i 1350).elim (fun h => bounds_1335_1350 i h1 h) fun h => bounds_1350_1365 i h h2
theorem bounds_1305_1365 (i : Nat) (h1 : 1305 ≤ i) (h2 : i < 1365) : boundsAll i = true := (Nat.lt_or_ge i 1335).elim (fun h => bounds_1305_1335 i h1 h) fun h => bounds_1335_1365 i h h2
theorem bounds_1245_1365 (i : Nat) (h1 : 1245 ≤ i) (h2 : i < 1365) : boundsAll i = true := (Nat.lt_or_ge i 1305).elim (fun h => bounds_1245_1305 i h1 h) fun h => bounds_1305_1365 i h h2
theorem bounds_1365_1380 (i : Nat) (h1 : 1365 ≤ i) (h2 : i < 1380) : boundsAll i = true := span_spec bounds_1365 i h1 (by omega)
theorem bounds_1380_1395 (i : Nat) (h1 : 1380 ≤ i) (h2 : i < 1395) : boundsAll i = true := span_spec bounds_1380 i h1 (by omega)
theorem bounds_1365_1395 (i : Nat) (h1 : 1365 ≤ i) (h2 : i < 1395) : boundsAll i = true := (Nat.lt_or_ge i 1380).elim (fun h => bounds_1365_1380 i h1 h) fun h => bounds_1380_1395 i h h2
theorem bounds_1395_1410 (i : Nat) (h1 : 1395 ≤ i) (h2 : i < 1410) : boundsAll i = true := span_spec bounds_1395 i h1 (by omega)
theorem bounds_1410_1425 (i : Nat) (h1 : 1410 ≤ i) (h2 : i < 1425) : boundsAll i = true := span_spec bounds_1410 i h1 (by omega)
theorem bounds_1395_1425 (i : Nat) (h1 : 1395 ≤ i) (h2 : i < 1425) : boundsAll i = true := (Nat.lt_or_ge i 1410).elim (fun h => bounds_1395_1410 i h1 h) fun h => bounds_1410_1425 i h h2
theorem bounds_1365_1425 (i : Nat) (h1 : 1365 ≤ i) (h2 : i < 1425) : boundsAll i = true := (Nat.lt_or_ge i 1395).elim (fun h => bounds_1365_1395 i h1 h) fun h => bounds_1395_1425 i h h2
theorem bounds_1425_1440 (i : Nat) (h1 : 1425 ≤ i) (h2 : i < 1440) : boundsAll i = true := span_spec bounds_1425 i h1 (by omega)
theorem bounds_1440_1455 (i : Nat) (h1 : 1440 ≤ i) (h2 : i < 1455) : boundsAll i = true := span_spec bounds_1440 i h1 (by omega)
theorem bounds_1425_1455 (i : Nat) (h1 : 1425 ≤ i) (h2 : i < 1455) : boundsAll i = true := (Nat.lt_or_ge i 1440).elim (fun h => bounds_1425_1440 i h1 h) fun h => bounds_1440_1455 i h h2
theorem bounds_1455_1470 (i : Nat) (h1 : 1455 ≤ i) (h2 : i < 1470) : boundsAll i = true := span_spec bounds_1455 i h1 (by omega)
theorem bounds_1470_1485 (i : Nat) (h1 : 1470 ≤ i) (h2 : i < 1485) : boundsAll i = true := span_spec bounds_1470 i h1 (by omega)
theorem bounds_1485_1500 (i : Nat) (h1 : 1485 ≤ i) (h2 : i < 1500) : boundsAll i = true := span_spec bounds_1485 i h1 (by omega)
theorem bounds_1470_1500 (i : Nat) (h1 : 1470 ≤ i) (h2 : i < 1500) : boundsAll i = true := (Nat.lt_or_ge i 1485).elim (fun h => bounds_1470_1485 i h1 h) fun h => bounds_1485_1500 i h h2
theorem bounds_1455_1500 (i : Nat) (h1 : 1455 ≤ i) (h2 : i < 1500) : boundsAll i = true := (Nat.lt_or_ge i 1470).elim (fun h => bounds_1455_1470 i h1 h) fun h => bounds_1470_1500 i h h2
theorem bounds_1425_1500 (i : Nat) (h1 : 1425 ≤ i) (h2 : i < 1500) : boundsAll i = true := (Nat.lt_or_ge i 1455).elim (fun h => bounds_1425_1455 i h1 h) fun h => bounds_1455_1500 i h h2
theorem bounds_1365_1500 (i : Nat) (h1 : 1365 ≤ i) (h2 : i < 1500) : boundsAll i = true := (Nat.lt_or_ge i 1425).elim (fun h => bounds_1365_1425 i h1 h) fun h => bounds_1425_1500 i h h2
theorem bounds_1245_1500 (i : Nat) (h1 : 1245 ≤ i) (h2 : i < 1500) : boundsAll i = true := (Nat.lt_or_ge i 1365).elim (fun h => bounds_1245_1365 i h1 h) fun h => bounds_1365_1500 i h h2
theorem bounds_1005_1500 (i : Nat) (h1 : 1005 ≤ i) (h2 : i < 1500) : boundsAll i = true := (Nat.lt_or_ge i 1245).elim (fun h => bounds_1005_1245 i h1 h) fun h => bounds_1245_1500 i h h2
theorem bounds_1500_1515 (i : Nat) (h1 : 1500 ≤ i) (h2 : i < 1515) : boundsAll i = true := span_spec bounds_1500 i h1 (by omega)
theorem bounds_1515_1530 (i : Nat) (h1 : 1515 ≤ i) (h2 : i < 1530) : boundsAll i = true := span_spec bounds_1515 i h1 (by omega)
theorem bounds_1500_1530 (i : Nat) (h1 : 1500 ≤ i) (h2 : i < 1530) : boundsAll i = true := (Nat.lt_or_ge i 1515).elim (fun h => bounds_1500_1515 i h1 h) fun h => bounds_1515_1530 i h h2
theorem bounds_1530_1545 (i : Nat) (h1 : 1530 ≤ i) (h2 : i < 1545) : boundsAll i = true := span_spec bounds_1530 i h1 (by omega)
theorem bounds_1545_1560 (i : Nat) (h1 : 1545 ≤ i) (h2 : i < 1560) : boundsAll i = true := span_spec bounds_1545 i h1 (by omega)
theorem bounds_1530_1560 (i : Nat) (h1 : 1530 ≤ i) (h2 : i < 1560) : boundsAll i = true := (Nat.lt_or_ge i 1545).elim (fun h => bounds_1530_1545 i h1 h) fun h => bounds_1545_1560 i h h2
theorem bounds_1500_1560 (i : Nat) (h1 : 1500 ≤ i) (h2 : i < 1560) : boundsAll i = true := (Nat.lt_or_ge i 1530).elim (fun h => bounds_1500_1530 i h1 h) fun h => bounds_1530_1560 i h h2
theorem bounds_1560_1575 (i : Nat) (h1 : 1560 ≤ i) (h2 : i < 1575) : boundsAll i = true := span_spec bounds_1560 i h1 (by omega)
theorem bounds_1575_1590 (i : Nat) (h1 : 1575 ≤ i) (h2 : i < 1590) : boundsAll i = true := span_spec bounds_1575 i h1 (by omega)
theorem bounds_1560_1590 (i : Nat) (h1 : 1560 ≤ i) (h2 : i < 1590) : boundsAll i = true := (Nat.lt_or_ge i 1575).elim (fun h => bounds_1560_1575 i h1 h) fun h => bounds_1575_1590 i h h2
theorem bounds_1590_1605 (i : Nat) (h1 : 1590 ≤ i) (h2 : i < 1605) : boundsAll i = true := span_spec bounds_1590 i h1 (by omega)
theorem bounds_1605_1620 (i : Nat) (h1 : 1605 ≤ i) (h2 : i < 1620) : boundsAll i = true := span_spec bounds_1605 i h1 (by omega)
theorem bounds_1590_1620 (i : Nat) (h1 : 1590 ≤ i) (h2 : i < 1620) : boundsAll i = true := (Nat.lt_or_ge i 1605).elim (fun h => bounds_1590_1605 i h1 h) fun h => bounds_1605_1620 i h h2
theorem bounds_1560_1620 (i : Nat) (h1 : 1560 ≤ i) (h2 : i < 1620) : boundsAll i = true := (Nat.lt_or_ge i 1590).elim (fun h => bounds_1560_1590 i h1 h) fun h => bounds_1590_1620 i h h2
theorem bounds_1500_1620 (i : Nat) (h1 : 1500 ≤ i) (h2 : i < 1620) : boundsAll i = true := (Nat.lt_or_ge i 1560).elim (fun h => bounds_1500_1560 i h1 h) fun h => bounds_1560_1620 i h h2
theorem bounds_1620_1635 (i : Nat) (h1 : 1620 ≤ i) (h2 : i < 1635) : boundsAll i = true := span_spec bounds_1620 i h1 (by omega)
theorem bounds_1635_1650 (i : Nat) (h1 : 1635 ≤ i) (h2 : i < 1650) : boundsAll i = true := span_spec bounds_1635 i h1 (by omega)
theorem bounds_1620_1650 (i : Nat) (h1 : 1620 ≤ i) (h2 : i < 1650) : boundsAll i = true := (Nat.lt_or_ge i 1635).elim (fun h => bounds_1620_1635 i h1 h) fun h => bounds_1635_1650 i h h2
theorem bounds_1650_1665 (i : Nat) (h1 : 1650 ≤ i) (h2 : i < 1665) : boundsAll i = true := span_spec bounds_1650 i h1 (by omega)
theorem bounds_1665_1680 (i : Nat) (h1 : 1665 ≤ i) (h2 : i < 1680) : boundsAll i = true := span_spec bounds_1665 i h1 (by omega)
theorem bounds_1650_1680 (i : Nat) (h1 : 1650 ≤ i) (h2 : i < 1680) : boundsAll i = true := (Nat.lt_or_ge i 1665).elim (fun h => bounds_1650_1665 i h1 h) fun h => bounds_1665_1680 i h h2
theorem bounds_1620_1680 (i : Nat) (h1 : 1620 ≤ i) (h2 : i < 1680) : boundsAll i = true := (Nat.lt_or_ge i 1650).elim (fun h => bounds_1620_1650 i h1 h) fun h => bounds_1650_1680 i h h2
theorem bounds_1680_1695 (i : Nat) (h1 : 1680 ≤ i) (h2 : i < 1695) : boundsAll i = true := span_spec bounds_1680 i h1 (by omega)
theorem bounds_1695_1710 (i : Nat) (h1 : 1695 ≤ i) (h2 : i < 1710) : boundsAll i = true := span_spec bounds_1695 i h1 (by omega)
theorem bounds_1680_1710 (i : Nat) (h1 : 1680 ≤ i) (h2 : i < 1710) : boundsAll i = true := (Nat.lt_or_ge i 1695).elim (fun h => bounds_1680_1695 i h1 h) fun h => bounds_1695_1710 i h h2
theorem bounds_1710_1725 (i : Nat) (h1 : 1710 ≤ i) (h2 : i < 1725) : boundsAll i = true := span_spec bounds_1710 i h1 (by omega)
theorem bounds_1725_1740 (i : Nat) (h1 : 1725 ≤ i) (h2 : i < 1740) : boundsAll i = true := span_spec bounds_1725 i h1 (by omega)
theorem bounds_1740_1755 (i : Nat) (h1 : 1740 ≤ i) (h2 : i < 1755) : boundsAll i = true := span_spec bounds_1740 i h1 (by omega)
theorem bounds_1725_1755 (i : Nat) (h1 : 1725 ≤ i) (h2 : i < 1755) : boundsAll i = true := (Nat.lt_or_ge i 1740).elim (fun h => bounds_1725_1740 i h1 h) fun h => bounds_1740_1755 i h h2
theorem bounds_1710_1755 (i : Nat) (h1 : 1710 ≤ i) (h2 : i < 1755) : boundsAll i = true := (Nat.lt_or_ge i 1725).elim (fun h => bounds_1710_1725 i h1 h) fun h => bounds_1725_1755 i h h2
theorem bounds_1680_1755 (i : Nat) (h1 : 1680 ≤ i) (h2 : i < 1755) : boundsAll i = true := (Nat.lt_or_ge i 1710).elim (fun h => bounds_1680_1710 i h1 h) fun h => bounds_1710_1755 i h h2
theorem bounds_1620_1755 (i : Nat) (h1 : 1620 ≤ i) (h2 : i < 1755) : boundsAll i = true := (Nat.lt_or_ge i 1680).elim (fun h => bounds_1620_1680 i h1 h) fun h => bounds_1680_1755 i h h2
theorem bounds_1500_1755 (i : Nat) (h1 : 1500 ≤ i) (h2 : i < 1755) : boundsAll i = true := (Nat.lt_or_ge i 1620).elim (fun h => bounds_1500_1620 i h1 h) fun h => bounds_1620_1755 i h h2
theorem bounds_1755_1770 (i : Nat) (h1 : 1755 ≤ i) (h2 : i < 1770) : boundsAll i = true := span_spec bounds_1755 i h1 (by omega)
theorem bounds_1770_1785 (i : Nat) (h1 : 1770 ≤ i) (h2 : i < 1785) : boundsAll i = true := span_spec bounds_1770 i h1 (by omega)
theorem bounds_1755_1785 (i : Nat) (h1 : 1755 ≤ i) (h2 : i < 1785) : boundsAll i = true := (Nat.lt_or_ge i 1770).elim (fun h => bounds_1755_1770 i h1 h) fun h => bounds_1770_1785 i h h2
theorem bounds_1785_1800 (i : Nat) (h1 : 1785 ≤ i) (h2 : i < 1800) : boundsAll i = true := span_spec bounds_1785 i h1 (by omega)
theorem bounds_1800_1815 (i : Nat) (h1 : 1800 ≤ i) (h2 : i < 1815) : boundsAll i = true := span_spec bounds_1800 i h1 (by omega)
theorem bounds_1785_1815 (i : Nat) (h1 : 1785 ≤ i) (h2 : i < 1815) : boundsAll i = true := (Nat.lt_or_ge i 1800).elim (fun h => bounds_1785_1800 i h1 h) fun h => bounds_1800_1815 i h h2
theorem bounds_1755_1815 (i : Nat) (h1 : 1755 ≤ i) (h2 : i < 1815) : boundsAll i = true := (Nat.lt_or_ge i 1785).elim (fun h => bounds_1755_1785 i h1 h) fun h => bounds_1785_1815 i h h2
theorem bounds_1815_1830 (i : Nat) (h1 : 1815 ≤ i) (h2 : i < 1830) : boundsAll i = true := span_spec bounds_1815 i h1 (by omega)
theorem bounds_1830_1845 (i : Nat) (h1 : 1830 ≤ i) (h2 : i < 1845) : boundsAll i = true := span_spec bounds_1830 i h1 (by omega)
theorem bounds_1815_1845 (i : Nat) (h1 : 1815 ≤ i) (h2 : i < 1845) : boundsAll i = true := (Nat.lt_or_ge i 1830).elim (fun h => bounds_1815_1830 i h1 h) fun h => bounds_1830_1845 i h h2
theorem bounds_1845_1860 (i : Nat) (h1 : 1845 ≤ i) (h2 : i < 1860) : boundsAll i = true := span_spec bounds_1845 i h1 (by omega)
theorem bounds_1860_1875 (i : Nat) (h1 : 1860 ≤ i) (h2 : i < 1875) : boundsAll i = true := span_spec bounds_1860 i h1 (by omega)
theorem bounds_1845_1875 (i : Nat) (h1 : 1845 ≤ i) (h2 : i < 1875) : boundsAll i = true := (Nat.lt_or_ge i 1860).elim (fun h => bounds_1845_1860 i h1 h) fun h => bounds_1860_1875 i h h2
theorem bounds_1815_1875 (i : Nat) (h1 : 1815 ≤ i) (h2 : i < 1875) : boundsAll i = true := (Nat.lt_or_ge i 1845).elim (fun h => bounds_1815_1845 i h1 h) fun h => bounds_1845_1875 i h h2
theorem bounds_1755_1875 (i : Nat) (h1 : 1755 ≤ i) (h2 : i < 1875) : boundsAll i = true := (Nat.lt_or_ge i 1815).elim (fun h => bounds_1755_1815 i h1 h) fun h => bounds_1815_1875 i h h2
theorem bounds_1875_1890 (i : Nat) (h1 : 1875 ≤ i) (h2 : i < 1890) : boundsAll i = true := span_spec bounds_1875 i h1 (by omega)
theorem bounds_1890_1905 (i : Nat) (h1 : 1890 ≤ i) (h2 : i < 1905) : boundsAll i = true := span_spec bounds_1890 i h1 (by omega)
theorem bounds_1875_1905 (i : Nat) (h1 : 1875 ≤ i) (h2 : i < 1905) : boundsAll i = true := (Nat.lt_or_ge i 1890).elim (fun h => bounds_1875_1890 i h1 h) fun h => bounds_1890_1905 i h h2
theorem bounds_1905_1920 (i : Nat) (h1 : 1905 ≤ i) (h2 : i < 1920) : boundsAll i = true := span_spec bounds_1905 i h1 (by omega)
theorem bounds_1920_1935 (i : Nat) (h1 : 1920 ≤ i) (h2 : i < 1935) : boundsAll i = true := span_spec bounds_1920 i h1 (by omega)
theorem bounds_1905_1935 (i : Nat) (h1 : 1905 ≤ i) (h2 : i < 1935) : boundsAll i = true := (Nat.lt_or_ge i 1920).elim (fun h => bounds_1905_1920 i h1 h) fun h => bounds_1920_1935 i h h2
theorem bounds_1875_1935 (i : Nat) (h1 : 1875 ≤ i) (h2 : i < 1935) : boundsAll i = true := (Nat.lt_or_ge i 1905).elim (fun h => bounds_1875_1905 i h1 h) fun h => bounds_1905_1935 i h h2
theorem bounds_1935_1950 (i : Nat) (h1 : 1935 ≤ i) (h2 : i < 1950) : boundsAll i = true := span_spec bounds_1935 i h1 (by omega)
theorem bounds_1950_1965 (i : Nat) (h1 : 1950 ≤ i) (h2 : i < 1965) : boundsAll i = true := span_spec bounds_1950 i h1 (by omega)
theorem bounds_1935_1965 (i : Nat) (h1 : 1935 ≤ i) (h2 : i < 1965) : boundsAll i = true := (Nat.lt_or_ge i 1950).elim (fun h => bounds_1935_1950 i h1 h) fun h => bounds_1950_1965 i h h2
theorem bounds_1965_1980 (i : Nat) (h1 : 1965 ≤ i) (h2 : i < 1980) : boundsAll i = true := span_spec bounds_1965 i h1 (by omega)
theorem bounds_1980_1995 (i : Nat) (h1 : 1980 ≤ i) (h2 : i < 1995) : boundsAll i = true := span_spec bounds_1980 i h1 (by omega)
theorem bounds_1995_2010 (i : Nat) (h1 : 1995 ≤ i) (h2 : i < 2010) : boundsAll i = true := span_spec bounds_1995 i h1 (by omega)
theorem bounds_1980_2010 (i : Nat) (h1 : 1980 ≤ i) (h2 : i < 2010) : boundsAll i = true := (Nat.lt_or_ge i 1995).elim (fun h => bounds_1980_1995 i h1 h) fun h => bounds_1995_2010 i h h2
theorem bounds_1965_2010 (i : Nat) (h1 : 1965 ≤ i) (h2 : i < 2010) : boundsAll i = true := (Nat.lt_or_ge i 1980).elim (fun h => bounds_1965_1980 i h1 h) fun h => bounds_1980_2010 i h h2
theorem bounds_1935_2010 (i : Nat) (h1 : 1935 ≤ i) (h2 : i < 2010) : boundsAll i = true := (Nat.lt_or_ge i 1965).elim (fun h => bounds_1935_1965 i h1 h) fun h => bounds_1965_2010 i h h2
theorem bounds_1875_2010 (i : Nat) (h1 : 1875 ≤ i) (h2 : i < 2010) : boundsAll i = true := (Nat.lt_or_ge i 1935).elim (fun h => bounds_1875_1935 i h1 h) fun h => bounds_1935_2010 i h h2
theorem bounds_1755_2010 (i : Nat) (h1 : 1755 ≤ i) (h2 : i < 2010) : boundsAll i = true := (Nat.lt_or_ge i 1875).elim (fun h => bounds_1755_1875 i h1 h) fun h => bounds_1875_2010 i h h2
theorem bounds_1500_2010 (i : Nat) (h1 : 1500 ≤ i) (h2 : i < 2010) : boundsAll i = true := (Nat.lt_or_ge i 1755).elim (fun h => bounds_1500_1755 i h1 h) fun h => bounds_1755_2010 i h h2
theorem bounds_1005_2010 (i : Nat) (h1 : 1005 ≤ i) (h2 : i < 2010) : boundsAll i = true := (Nat.lt_or_ge i 1500).elim (fun h => bounds_1005_1500 i h1 h) fun h => bounds_1500_2010 i h h2
theorem bounds_0_2010 (i : Nat) (h1 : 0 ≤ i) (h2 : i < 2010) : boundsAll i = true := (Nat.lt_or_ge i 1005).elim (fun h => bounds_0_1005 i h1 h) fun h => bounds_1005_2010 i h h2
theorem bounds_2010_2025 (i : Nat) (h1 : 2010 ≤ i) (h2 : i < 2025) : boundsAll i = true := span_spec bounds_2010 i h1 (by omega)
theorem bounds_2025_2040 (i : Nat) (h1 : 2025 ≤ i) (h2 : i < 2040) : boundsAll i = true := span_spec bounds_2025 i h1 (by omega)
theorem bounds_2010_2040 (i : Nat) (h1 : 2010 ≤ i) (h2 : i < 2040) : boundsAll i = true := (Nat.lt_or_ge i 2025).elim (fun h => bounds_2010_2025 i h1 h) fun h => bounds_2025_2040 i h h2
theorem bounds_2040_2055 (i : Nat) (h1 : 2040 ≤ i) (h2 : i < 2055) : boundsAll i = true := span_spec bounds_2040 i h1 (by omega)
theorem bounds_2055_2070 (i : Nat) (h1 : 2055 ≤ i) (h2 : i < 2070) : boundsAll i = true := span_spec bounds_2055 i h1 (by omega)
theorem bounds_2040_2070 (i : Nat) (h1 : 2040 ≤ i) (h2 : i < 2070) : boundsAll i = true := (Nat.lt_or_ge i 2055).elim (fun h => bounds_2040_2055 i h1 h) fun h => bounds_2055_2070 i h h2
theorem bounds_2010_2070 (i : Nat) (h1 : 2010 ≤ i) (h2 : i < 2070) : boundsAll i = true := (Nat.lt_or_ge i 2040).elim (fun h => bounds_2010_2040 i h1 h) fun h => bounds_2040_2070 i h h2
theorem bounds_2070_2085 (i : Nat) (h1 : 2070 ≤ i) (h2 : i < 2085) : boundsAll i = true := span_spec bounds_2070 i h1 (by omega)
theorem bounds_2085_2100 (i : Nat) (h1 : 2085 ≤ i) (h2 : i < 2100) : boundsAll i = true := span_spec bounds_2085 i h1 (by omega)
theorem bounds_2070_2100 (i : Nat) (h1 : 2070 ≤ i) (h2 : i < 2100) : boundsAll i = true := (Nat.lt_or_ge i 2085).elim (fun h => bounds_2070_2085 i h1 h) fun h => bounds_2085_2100 i h h2
theorem bounds_2100_2115 (i : Nat) (h1 : 2100 ≤ i) (h2 : i < 2115) : boundsAll i = true := span_spec bounds_2100 i h1 (by omega)
theorem bounds_2115_2130 (i : Nat) (h1 : 2115 ≤ i) (h2 : i < 2130) : boundsAll i = true := span_spec bounds_2115 i h1 (by omega)
theorem bounds_2100_2130 (i : Nat) (h1 : 2100 ≤ i) (h2 : i < 2130) : boundsAll i = true := (Nat.lt_or_ge i 2115).elim (fun h => bounds_2100_2115 i h1 h) fun h => bounds_2115_2130 i h h2
theorem bounds_2070_2130 (i : Nat) (h1 : 2070 ≤ i) (h2 : i < 2130) : boundsAll i = true := (Nat.lt_or_ge i 2100).elim (fun h => bounds_2070_2100 i h1 h) fun h => bounds_2100_2130 i h h2
theorem bounds_2010_2130 (i : Nat) (h1 : 2010 ≤ i) (h2 : i < 2130) : boundsAll i = true := (Nat.lt_or_ge i 2070).elim (fun h => bounds_2010_2070 i h1 h) fun h => bounds_2070_2130 i h h2
theorem bounds_2130_2145 (i : Nat) (h1 : 2130 ≤ i) (h2 : i < 2145) : boundsAll i = true := span_spec bounds_2130 i h1 (by omega)
theorem bounds_2145_2160 (i : Nat) (h1 : 2145 ≤ i) (h2 : i < 2160) : boundsAll i = true := span_spec bounds_2145 i h1 (by omega)
theorem bounds_2130_2160 (i : Nat) (h1 : 2130 ≤ i) (h2 : i < 2160) : boundsAll i = true := (Nat.lt_or_ge i 2145).elim (fun h => bounds_2130_2145 i h1 h) fun h => bounds_2145_2160 i h h2
theorem bounds_2160_2175 (i : Nat) (h1 : 2160 ≤ i) (h2 : i < 2175) : boundsAll i = true := span_spec bounds_2160 i h1 (by omega)
theorem bounds_2175_2190 (i : Nat) (h1 : 2175 ≤ i) (h2 : i < 2190) : boundsAll i = true := span_spec bounds_2175 i h1 (by omega)
theorem bounds_2160_2190 (i : Nat) (h1 : 2160 ≤ i) (h2 : i < 2190) : boundsAll i = true := (Nat.lt_or_ge i 2175).elim (fun h => bounds_2160_2175 i h1 h) fun h => bounds_2175_2190 i h h2
theorem bounds_2130_2190 (i : Nat) (h1 : 2130 ≤ i) (h2 : i < 2190) : boundsAll i = true := (Nat.lt_or_ge i 2160).elim (fun h => bounds_2130_2160 i h1 h) fun h => bounds_2160_2190 i h h2
theorem bounds_2190_2205 (i : Nat) (h1 : 2190 ≤ i) (h2 : i < 2205) : boundsAll i = true := span_spec bounds_2190 i h1 (by omega)
theorem bounds_2205_2220 (i : Nat) (h1 : 2205 ≤ i) (h2 : i < 2220) : boundsAll i = true := span_spec bounds_2205 i h1 (by omega)
theorem bounds_2190_2220 (i : Nat) (h1 : 2190 ≤ i) (h2 : i < 2220) : boundsAll i = true := (Nat.lt_or_ge i 2205).elim (fun h => bounds_2190_2205 i h1 h) fun h => bounds_2205_2220 i h h2
theorem bounds_2220_2235 (i : Nat) (h1 : 2220 ≤ i) (h2 : i < 2235) : boundsAll i = true := span_spec bounds_2220 i h1 (by omega)
theorem bounds_2235_2250 (i : Nat) (h1 : 2235 ≤ i) (h2 : i < 2250) : boundsAll i = true := span_spec bounds_2235 i h1 (by omega)
theorem bounds_2220_2250 (i : Nat) (h1 : 2220 ≤ i) (h2 : i < 2250) : boundsAll i = true := (Nat.lt_or_ge i 2235).elim (fun h => bounds_2220_2235 i h1 h) fun h => bounds_2235_2250 i h h2
theorem bounds_2190_2250 (i : Nat) (h1 : 2190 ≤ i) (h2 : i < 2250) : boundsAll i = true := (Nat.lt_or_ge i 2220).elim (fun h => bounds_2190_2220 i h1 h) fun h => bounds_2220_2250 i h h2
theorem bounds_2130_2250 (i : Nat) (h1 : 2130 ≤ i) (h2 : i < 2250) : boundsAll i = true := (Nat.lt_or_ge i 2190).elim (fun h => bounds_2130_2190 i h1 h) fun h => bounds_2190_2250 i h h2
theorem bounds_2010_2250 (i : Nat) (h1 : 2010 ≤ i) (h2 : i < 2250) : boundsAll i = true := (Nat.lt_or_ge i 2130).elim (fun h => bounds_2010_2130 i h1 h) fun h => bounds_2130_2250 i h h2
theorem bounds_2250_2265 (i : Nat) (h1 : 2250 ≤ i) (h2 : i < 2265) : boundsAll i = true := span_spec bounds_2250 i h1 (by omega)
theorem bounds_2265_2280 (i : Nat) (h1 : 2265 ≤ i) (h2 : i < 2280) : boundsAll i = true := span_spec bounds_2265 i h1 (by omega)
theorem bounds_2250_2280 (i : Nat) (h1 : 2250 ≤ i) (h2 : i < 2280) : boundsAll i = true := (Nat.lt_or_ge i 2265).elim (fun h => bounds_2250_2265 i h1 h) fun h => bounds_2265_2280 i h h2
theorem bounds_2280_2295 (i : Nat) (h1 : 2280 ≤ i) (h2 : i < 2295) : boundsAll i = true := span_spec bounds_2280 i h1 (by omega)
theorem bounds_2295_2310 (i : Nat) (h1 : 2295 ≤ i) (h2 : i < 2310) : boundsAll i = true := span_spec bounds_2295 i h1 (by omega)
theorem bounds_2280_2310 (i : Nat) (h1 : 2280 ≤ i) (h2 : i < 2310) : boundsAll i = true := (Nat.lt_or_ge i 2295).elim (fun h => bounds_2280_2295 i h1 h) fun h => bounds_2295_2310 i h h2
theorem bounds_2250_2310 (i : Nat) (h1 : 2250 ≤ i) (h2 : i < 2310) : boundsAll i = true := (Nat.lt_or_ge i 2280).elim (fun h => bounds_2250_2280 i h1 h) fun h => bounds_2280_2310 i h h2
theorem bounds_2310_2325 (i : Nat) (h1 : 2310 ≤ i) (h2 : i < 2325) : boundsAll i = true := span_spec bounds_2310 i h1 (by omega)
theorem bounds_2325_2340 (i : Nat) (h1 : 2325 ≤ i) (h2 : i < 2340) : boundsAll i = true := span_spec bounds_2325 i h1 (by omega)
theorem bounds_2310_2340 (i : Nat) (h1 : 2310 ≤ i) (h2 : i < 2340) : boundsAll i = true := (Nat.lt_or_ge i 2325).elim (fun h => bounds_2310_2325 i h1 h) fun h => bounds_2325_2340 i h h2
theorem bounds_2340_2355 (i : Nat) (h1 : 2340 ≤ i) (h2 : i < 2355) : boundsAll i = true := span_spec bounds_2340 i h1 (by omega)
theorem bounds_2355_2370 (i : Nat) (h1 : 2355 ≤ i) (h2 : i < 2370) : boundsAll i = true := span_spec bounds_2355 i h1 (by omega)
theorem bounds_2340_2370 (i : Nat) (h1 : 2340 ≤ i) (h2 : i < 2370) : boundsAll i = true := (Nat.lt_or_ge i 2355).elim (fun h => bounds_2340_2355 i h1 h) fun h => bounds_2355_2370 i h h2
theorem bounds_2310_2370 (i : Nat) (h1 : 2310 ≤ i) (h2 : i < 2370) : boundsAll i = true := (Nat.lt_or_ge i 2340).elim (fun h => bounds_2310_2340 i h1 h) fun h => bounds_2340_2370 i h h2
theorem bounds_2250_2370 (i : Nat) (h1 : 2250 ≤ i) (h2 : i < 2370) : boundsAll i = true := (Nat.lt_or_ge i 2310).elim (fun h => bounds_2250_2310 i h1 h) fun h => bounds_2310_2370 i h h2
theorem bounds_2370_2385 (i : Nat) (h1 : 2370 ≤ i) (h2 : i < 2385) : boundsAll i = true := span_spec bounds_2370 i h1 (by omega)
theorem bounds_2385_2400 (i : Nat) (h1 : 2385 ≤ i) (h2 : i < 2400) : boundsAll i = true := span_spec bounds_2385 i h1 (by omega)
theorem bounds_2370_2400 (i : Nat) (h1 : 2370 ≤ i) (h2 : i < 2400) : boundsAll i = true := (Nat.lt_or_ge i 2385).elim (fun h => bounds_2370_2385 i h1 h) fun h => bounds_2385_2400 i h h2
theorem bounds_2400_2415 (i : Nat) (h1 : 2400 ≤ i) (h2 : i < 2415) : boundsAll i = true := span_spec bounds_2400 i h1 (by omega)
theorem bounds_2415_2430 (i : Nat) (h1 : 2415 ≤ i) (h2 : i < 2430) : boundsAll i = true := span_spec bounds_2415 i h1 (by omega)
theorem bounds_2400_2430 (i : Nat) (h1 : 2400 ≤ i) (h2 : i < 2430) : boundsAll i = true := (Nat.lt_or_ge i 2415).elim (fun h => bounds_2400_2415 i h1 h) fun h => bounds_2415_2430 i h h2
theorem bounds_2370_2430 (i : Nat) (h1 : 2370 ≤ i) (h2 : i < 2430) : boundsAll i = true := (Nat.lt_or_ge i 2400).elim (fun h => bounds_2370_2400 i h1 h) fun h => bounds_2400_2430 i h h2
theorem bounds_2430_2445 (i : Nat) (h1 : 2430 ≤ i) (h2 : i < 2445) : boundsAll i = true := span_spec bounds_2430 i h1 (by omega)
theorem bounds_2445_2460 (i : Nat) (h1 : 2445 ≤ i) (h2 : i < 2460) : boundsAll i = true := span_spec bounds_2445 i h1 (by omega)
theorem bounds_2430_2460 (i : Nat) (h1 : 2430 ≤ i) (h2 : i < 2460) : boundsAll i = true := (Nat.lt_or_ge i 2445).elim (fun h => bounds_2430_2445 i h1 h) fun h => bounds_2445_2460 i h h2
theorem bounds_2460_2475 (i : Nat) (h1 : 2460 ≤ i) (h2 : i < 2475) : boundsAll i = true := span_spec bounds_2460 i h1 (by omega)
theorem bounds_2475_2490 (i : Nat) (h1 : 2475 ≤ i) (h2 : i < 2490) : boundsAll i = true := span_spec bounds_2475 i h1 (by omega)
theorem bounds_2490_2505 (i : Nat) (h1 : 2490 ≤ i) (h2 : i < 2505) : boundsAll i = true := span_spec bounds_2490 i h1 (by omega)
theorem bounds_2475_2505 (i : Nat) (h1 : 2475 ≤ i) (h2 : i < 2505) : boundsAll i = true := (Nat.lt_or_ge i 2490).elim (fun h => bounds_2475_2490 i h1 h) fun h => bounds_2490_2505 i h h2
theorem bounds_2460_2505 (i : Nat) (h1 : 2460 ≤ i) (h2 : i < 2505) : boundsAll i = true := (Nat.lt_or_ge i 2475).elim (fun h => bounds_2460_2475 i h1 h) fun h => bounds_2475_2505 i h h2
theorem bounds_2430_2505 (i : Nat) (h1 : 2430 ≤ i) (h2 : i < 2505) : boundsAll i = true := (Nat.lt_or_ge i 2460).elim (fun h => bounds_2430_2460 i h1 h) fun h => bounds_2460_2505 i h h2
theorem bounds_2370_2505 (i : Nat) (h1 : 2370 ≤ i) (h2 : i < 2505) : boundsAll i = true := (Nat.lt_or_ge i 2430).elim (fun h => bounds_2370_2430 i h1 h) fun h => bounds_2430_2505 i h h2
theorem bounds_2250_2505 (i : Nat) (h1 : 2250 ≤ i) (h2 : i < 2505) : boundsAll i = true := (Nat.lt_or_ge i 2370).elim (fun h => bounds_2250_2370 i h1 h) fun h => bounds_2370_2505 i h h2
theorem bounds_2010_2505 (i : Nat) (h1 : 2010 ≤ i) (h2 : i < 2505) : boundsAll i = true := (Nat.lt_or_ge i 2250).elim (fun h => bounds_2010_2250 i h1 h) fun h => bounds_2250_2505 i h h2
theorem bounds_2505_2520 (i : Nat) (h1 : 2505 ≤ i) (h2 : i < 2520) : boundsAll i = true := span_spec bounds_2505 i h1 (by omega)
theorem bounds_2520_2535 (i : Nat) (h1 : 2520 ≤ i) (h2 : i < 2535) : boundsAll i = true := span_spec bounds_2520 i h1 (by omega)
theorem bounds_2505_2535 (i : Nat) (h1 : 2505 ≤ i) (h2 : i < 2535) : boundsAll i = true := (Nat.lt_or_ge i 2520).elim (fun h => bounds_2505_2520 i h1 h) fun h => bounds_2520_2535 i h h2
theorem bounds_2535_2550 (i : Nat) (h1 : 2535 ≤ i) (h2 : i < 2550) : boundsAll i = true := span_spec bounds_2535 i h1 (by omega)
theorem bounds_2550_2565 (i : Nat) (h1 : 2550 ≤ i) (h2 : i < 2565) : boundsAll i = true := span_spec bounds_2550 i h1 (by omega)
theorem bounds_2535_2565 (i : Nat) (h1 : 2535 ≤ i) (h2 : i < 2565) : boundsAll i = true := (Nat.lt_or_ge i 2550).elim (fun h => bounds_2535_2550 i h1 h) fun h => bounds_2550_2565 i h h2
theorem bounds_2505_2565 (i : Nat) (h1 : 2505 ≤ i) (h2 : i < 2565) : boundsAll i = true := (Nat.lt_or_ge i 2535).elim (fun h => bounds_2505_2535 i h1 h) fun h => bounds_2535_2565 i h h2
theorem bounds_2565_2580 (i : Nat) (h1 : 2565 ≤ i) (h2 : i < 2580) : boundsAll i = true := span_spec bounds_2565 i h1 (by omega)
theorem bounds_2580_2595 (i : Nat) (h1 : 2580 ≤ i) (h2 : i < 2595) : boundsAll i = true := span_spec bounds_2580 i h1 (by omega)
theorem bounds_2565_2595 (i : Nat) (h1 : 2565 ≤ i) (h2 : i < 2595) : boundsAll i = true := (Nat.lt_or_ge i 2580).elim (fun h => bounds_2565_2580 i h1 h) fun h => bounds_2580_2595 i h h2
theorem bounds_2595_2610 (i : Nat) (h1 : 2595 ≤ i) (h2 : i < 2610) : boundsAll i = true := span_spec bounds_2595 i h1 (by omega)
theorem bounds_2610_2625 (i : Nat) (h1 : 2610 ≤ i) (h2 : i < 2625) : boundsAll i = true := span_spec bounds_2610 i h1 (by omega)
theorem bounds_2595_2625 (i : Nat) (h1 : 2595 ≤ i) (h2 : i < 2625) : boundsAll i = true := (Nat.lt_or_ge i 2610).elim (fun h => bounds_2595_2610 i h1 h) fun h => bounds_2610_2625 i h h2
theorem bounds_2565_2625 (i : Nat) (h1 : 2565 ≤ i) (h2 : i < 2625) : boundsAll i = true := (Nat.lt_or_ge i 2595).elim (fun h => bounds_2565_2595 i h1 h) fun h => bounds_2595_2625 i h h2
theorem bounds_2505_2625 (i : Nat) (h1 : 2505 ≤ i) (h2 : i < 2625) : boundsAll i = true := (Nat.lt_or_ge i 2565).elim (fun h => bounds_2505_2565 i h1 h) fun h => bounds_2565_2625 i h h2
theorem bounds_2625_2640 (i : Nat) (h1 : 2625 ≤ i) (h2 : i < 2640) : boundsAll i = true := span_spec bounds_2625 i h1 (by omega)
theorem bounds_2640_2655 (i : Nat) (h1 : 2640 ≤ i) (h2 : i < 2655) : boundsAll i = true := span_spec bounds_2640 i h1 (by omega)
theorem bounds_2625_2655 (i : Nat) (h1 : 2625 ≤ i) (h2 : i < 2655) : boundsAll i = true := (Nat.lt_or_ge i 2640).elim (fun h => bounds_2625_2640 i h1 h) fun h => bounds_2640_2655 i h h2
theorem bounds_2655_2670 (i : Nat) (h1 : 2655 ≤ i) (h2 : i < 2670) : boundsAll i = true := span_spec bounds_2655 i h1 (by omega)
theorem bounds_2670_2685 (i : Nat) (h1 : 2670 ≤ i) (h2 : i < 2685) : boundsAll i = true := span_spec bounds_2670 i h1 (by omega)
theorem bounds_2655_2685 (i : Nat) (h1 : 2655 ≤ i) (h2 : i < 2685) : boundsAll i = true := (Nat.lt_or_ge i 2670).elim (fun h => bounds_2655_2670 i h1 h) fun h => bounds_2670_2685 i h h2
theorem bounds_2625_2685 (i : Nat) (h1 : 2625 ≤ i) (h2 : i < 2685) : boundsAll i = true := (Nat.lt_or_ge i 2655).elim (fun h => bounds_2625_2655 i h1 h) fun h => bounds_2655_2685 i h h2
theorem bounds_2685_2700 (i : Nat) (h1 : 2685 ≤ i) (h2 : i < 2700) : boundsAll i = true := span_spec bounds_2685 i h1 (by omega)
theorem bounds_2700_2715 (i : Nat) (h1 : 2700 ≤ i) (h2 : i < 2715) : boundsAll i = true := span_spec bounds_2700 i h1 (by omega)
theorem bounds_2685_2715 (i : Nat) (h1 : 2685 ≤ i) (h2 : i < 2715) : boundsAll i = true := (Nat.lt_or_ge i 2700).elim (fun h => bounds_2685_2700 i h1 h) fun h => bounds_2700_2715 i h h2
theorem bounds_2715_2730 (i : Nat) (h1 : 2715 ≤ i) (h2 : i < 2730) : boundsAll i = true := span_spec bounds_2715 i h1 (by omega)
theorem bounds_2730_2745 (i : Nat) (h1 : 2730 ≤ i) (h2 : i < 2745) : boundsAll i = true := span_spec bounds_2730 i h1 (by omega)
theorem bounds_2745_2760 (i : Nat) (h1 : 2745 ≤ i) (h2 : i < 2760) : boundsAll i = true := span_spec bounds_2745 i h1 (by omega)
theorem bounds_2730_2760 (i : Nat) (h1 : 2730 ≤ i) (h2 : i < 2760) : boundsAll i = true := (Nat.lt_or_ge i 2745).elim (fun h => bounds_2730_2745 i h1 h) fun h => bounds_2745_2760 i h h2
theorem bounds_2715_2760 (i : Nat) (h1 : 2715 ≤ i) (h2 : i < 2760) : boundsAll i = true := (Nat.lt_or_ge i 2730).elim (fun h => bounds_2715_2730 i h1 h) fun h => bounds_2730_2760 i h h2
theorem bounds_2685_2760 (i : Nat) (h1 : 2685 ≤ i) (h2 : i < 2760) : boundsAll i = true := (Nat.lt_or_ge i 2715).elim (fun h => bounds_2685_2715 i h1 h) fun h => bounds_2715_2760 i h h2
theorem bounds_2625_2760 (i : Nat) (h1 : 2625 ≤ i) (h2 : i < 2760) : boundsAll i = true := (Nat.lt_or_ge i 2685).elim (fun h => bounds_2625_2685 i h1 h) fun h => bounds_2685_2760 i h h2
theorem bounds_2505_2760 (i : Nat) (h1 : 2505 ≤ i) (h2 : i < 2760) : boundsAll i = true := (Nat.lt_or_ge i 2625).elim (fun h => bounds_2505_2625 i h1 h) fun h => bounds_2625_2760 i h h2
theorem bounds_2760_2775 (i : Nat) (h1 : 2760 ≤ i) (h2 : i < 2775) : boundsAll i = true := span_spec bounds_2760 i h1 (by omega)
theorem bounds_2775_2790 (i : Nat) (h1 : 2775 ≤ i) (h2 : i < 2790) : boundsAll i = true := span_spec bounds_2775 i h1 (by omega)
theorem bounds_2760_2790 (i : Nat) (h1 : 2760 ≤ i) (h2 : i < 2790) : boundsAll i = true := (Nat.lt_or_ge i 2775).elim (fun h => bounds_2760_2775 i h1 h) fun h => bounds_2775_2790 i h h2
theorem bounds_2790_2805 (i : Nat) (h1 : 2790 ≤ i) (h2 : i < 2805) : boundsAll i = true := span_spec bounds_2790 i h1 (by omega)
theorem bounds_2805_2820 (i : Nat) (h1 : 2805 ≤ i) (h2 : i < 2820) : boundsAll i = true := span_spec bounds_2805 i h1 (by omega)
theorem bounds_2790_2820 (i : Nat) (h1 : 2790 ≤ i) (h2 : i < 2820) : boundsAll i = true := (Nat.lt_or_ge i 2805).elim (fun h => bounds_2790_2805 i h1 h) fun h => bounds_2805_2820 i h h2
theorem bounds_2760_2820 (i : Nat) (h1 : 2760 ≤ i) (h2 : i < 2820) : boundsAll i = true := (Nat.lt_or_ge i 2790).elim (fun h => bounds_2760_2790 i h1 h) fun h => bounds_2790_2820 i h h2
theorem bounds_2820_2835 (i : Nat) (h1 : 2820 ≤ i) (h2 : i < 2835) : boundsAll i = true := span_spec bounds_2820 i h1 (by omega)
theorem bounds_2835_2850 (i : Nat) (h1 : 2835 ≤ i) (h2 : i < 2850) : boundsAll i = true := span_spec bounds_2835 i h1 (by omega)
theorem bounds_2820_2850 (i : Nat) (h1 : 2820 ≤ i) (h2 : i < 2850) : boundsAll i = true := (Nat.lt_or_ge i 2835).elim (fun h => bounds_2820_2835 i h1 h) fun h => bounds_2835_2850 i h h2
theorem bounds_2850_2865 (i : Nat) (h1 : 2850 ≤ i) (h2 : i < 2865) : boundsAll i = true := span_spec bounds_2850 i h1 (by omega)
theorem bounds_2865_2880 (i : Nat) (h1 : 2865 ≤ i) (h2 : i < 2880) : boundsAll i = true := span_spec bounds_2865 i h1 (by omega)
theorem bounds_2850_2880 (i : Nat) (h1 : 2850 ≤ i) (h2 : i < 2880) : boundsAll i = true := (Nat.lt_or_ge i 2865).elim (fun h => bounds_2850_2865 i h1 h) fun h => bounds_2865_2880 i h h2
theorem bounds_2820_2880 (i : Nat) (h1 : 2820 ≤ i) (h2 : i < 2880) : boundsAll i = true := (Nat.lt_or_ge i 2850).elim (fun h => bounds_2820_2850 i h1 h) fun h => bounds_2850_2880 i h h2
theorem bounds_2760_2880 (i : Nat) (h1 : 2760 ≤ i) (h2 : i < 2880) : boundsAll i = true := (Nat.lt_or_ge i 2820).elim (fun h => bounds_2760_2820 i h1 h) fun h => bounds_2820_2880 i h h2
theorem bounds_2880_2895 (i : Nat) (h1 : 2880 ≤ i) (h2 : i < 2895) : boundsAll i = true := span_spec bounds_2880 i h1 (by omega)
theorem bounds_2895_2910 (i : Nat) (h1 : 2895 ≤ i) (h2 : i < 2910) : boundsAll i = true := span_spec bounds_2895 i h1 (by omega)
theorem bounds_2880_2910 (i : Nat) (h1 : 2880 ≤ i) (h2 : i < 2910) : boundsAll i = true := (Nat.lt_or_ge i 2895).elim (fun h => bounds_2880_2895 i h1 h) fun h => bounds_2895_2910 i h h2
theorem bounds_2910_2925 (i : Nat) (h1 : 2910 ≤ i) (h2 : i < 2925) : boundsAll i = true := span_spec bounds_2910 i h1 (by omega)
theorem bounds_2925_2940 (i : Nat) (h1 : 2925 ≤ i) (h2 : i < 2940) : boundsAll i = true := span_spec bounds_2925 i h1 (by omega)
theorem bounds_2910_2940 (i : Nat) (h1 : 2910 ≤ i) (h2 : i < 2940) : boundsAll i = true := (Nat.lt_or_ge i 2925).elim (fun h => bounds_2910_2925 i h1 h) fun h => bounds_2925_2940 i h h2
theorem bounds_2880_2940 (i : Nat) (h1 : 2880 ≤ i) (h2 : i < 2940) : boundsAll i = true := (Nat.lt_or_ge i 2910).elim (fun h => bounds_2880_2910 i h1 h) fun h => bounds_2910_2940 i h h2
theorem bounds_2940_2955 (i : Nat) (h1 : 2940 ≤ i) (h2 : i < 2955) : boundsAll i = true := span_spec bounds_2940 i h1 (by omega)
theorem bounds_2955_2970 (i : Nat) (h1 : 2955 ≤ i) (h2 : i < 2970) : boundsAll i = true := span_spec bounds_2955 i h1 (by omega)
theorem bounds_2940_2970 (i : Nat) (h1 : 2940 ≤ i) (h2 : i < 2970) : boundsAll i = true := (Nat.lt_or_ge i 2955).elim (fun h => bounds_2940_2955 i h1 h) fun h => bounds_2955_2970 i h h2
theorem bounds_2970_2985 (i : Nat) (h1 : 2970 ≤ i) (h2 : i < 2985) : boundsAll i = true := span_spec bounds_2970 i h1 (by omega)
theorem bounds_2985_3000 (i : Nat) (h1 : 2985 ≤ i) (h2 : i < 3000) : boundsAll i = true := span_spec bounds_2985 i h1 (by omega)
theorem bounds_3000_3015 (i : Nat) (h1 : 3000 ≤ i) (h2 : i < 3015) : boundsAll i = true := span_spec bounds_3000 i h1 (by omega)
theorem bounds_2985_3015 (i : Nat) (h1 : 2985 ≤ i) (h2 : i < 3015) : boundsAll i = true := (Nat.lt_or_ge i 3000).elim (fun h => bounds_2985_3000 i h1 h) fun h => bounds_3000_3015 i h h2
theorem bounds_2970_3015 (i : Nat) (h1 : 2970 ≤ i) (h2 : i < 3015) : boundsAll i = true := (Nat.lt_or_ge i 2985).elim (fun h => bounds_2970_2985 i h1 h) fun h => bounds_2985_3015 i h h2
theorem bounds_2940_3015 (i : Nat) (h1 : 2940 ≤ i) (h2 : i < 3015) : boundsAll i = true := (Nat.lt_or_ge i 2970).elim (fun h => bounds_2940_2970 i h1 h) fun h => bounds_2970_3015 i h h2
theorem bounds_2880_3015 (i : Nat) (h1 : 2880 ≤ i) (h2 : i < 3015) : boundsAll i = true := (Nat.lt_or_ge i 2940).elim (fun h => bounds_2880_2940 i h1 h) fun h => bounds_2940_3015 i h h2
theorem bounds_2760_3015 (i : Nat) (h1 : 2760 ≤ i) (h2 : i < 3015) : boundsAll i = true := (Nat.lt_or_ge i 2880).elim (fun h => bounds_2760_2880 i h1 h) fun h => bounds_2880_3015 i h h2
theorem bounds_2505_3015 (i : Nat) (h1 : 2505 ≤ i) (h2 : i < 3015) : boundsAll i = true := (Nat.lt_or_ge i 2760).elim (fun h => bounds_2505_2760 i h1 h) fun h => bounds_2760_3015 i h h2
theorem bounds_2010_3015 (i : Nat) (h1 : 2010 ≤ i) (h2 : i < 3015) : boundsAll i = true := (Nat.lt_or_ge i 2505).elim (fun h => bounds_2010_2505 i h1 h) fun h => bounds_2505_3015 i h h2
theorem bounds_3015_3030 (i : Nat) (h1 : 3015 ≤ i) (h2 : i < 3030) : boundsAll i = true := span_spec bounds_3015 i h1 (by omega)
theorem bounds_3030_3045 (i : Nat) (h1 : 3030 ≤ i) (h2 : i < 3045) : boundsAll i = true := span_spec bounds_3030 i h1 (by omega)
theorem bounds_3015_3045 (i : Nat) (h1 : 3015 ≤ i) (h2 : i < 3045) : boundsAll i = true := (Nat.lt_or_ge i 3030).elim (fun h => bounds_3015_3030 i h1 h) fun h => bounds_3030_3045 i h h2
theorem bounds_3045_3060 (i : Nat) (h1 : 3045 ≤ i) (h2 : i < 3060) : boundsAll i = true := span_spec bounds_3045 i h1 (by omega)
theorem bounds_3060_3075 (i : Nat) (h1 : 3060 ≤ i) (h2 : i < 3075) : boundsAll i = true := span_spec bounds_3060 i h1 (by omega)
theorem bounds_3045_3075 (i : Nat) (h1 : 3045 ≤ i) (h2 : i < 3075) : boundsAll i = true := (Nat.lt_or_ge i 3060).elim (fun h => bounds_3045_3060 i h1 h) fun h => bounds_3060_3075 i h h2
theorem bounds_3015_3075 (i : Nat) (h1 : 3015 ≤ i) (h2 : i < 3075) : boundsAll i = true := (Nat.lt_or_ge i 3045).elim (fun h => bounds_3015_3045 i h1 h) fun h => bounds_3045_3075 i h h2
theorem bounds_3075_3090 (i : Nat) (h1 : 3075 ≤ i) (h2 : i < 3090) : boundsAll i = true := span_spec bounds_3075 i h1 (by omega)
theorem bounds_3090_3105 (i : Nat) (h1 : 3090 ≤ i) (h2 : i < 3105) : boundsAll i = true := span_spec bounds_3090 i h1 (by omega)
theorem bounds_3075_3105 (i : Nat) (h1 : 3075 ≤ i) (h2 : i < 3105) : boundsAll i = true := (Nat.lt_or_ge i 3090).elim (fun h => bounds_3075_3090 i h1 h) fun h => bounds_3090_3105 i h h2
theorem bounds_3105_3120 (i : Nat) (h1 : 3105 ≤ i) (h2 : i < 3120) : boundsAll i = true := span_spec bounds_3105 i h1 (by omega)
theorem bounds_3120_3135 (i : Nat) (h1 : 3120 ≤ i) (h2 : i < 3135) : boundsAll i = true := span_spec bounds_3120 i h1 (by omega)
theorem bounds_3105_3135 (i : Nat) (h1 : 3105 ≤ i) (h2 : i < 3135) : boundsAll i = true := (Nat.lt_or_ge i 3120).elim (fun h => bounds_3105_3120 i h1 h) fun h => bounds_3120_3135 i h h2
theorem bounds_3075_3135 (i : Nat) (h1 : 3075 ≤ i) (h2 : i < 3135) : boundsAll i = true := (Nat.lt_or_ge i 3105).elim (fun h => bounds_3075_3105 i h1 h) fun h => bounds_3105_3135 i h h2
theorem bounds_3015_3135 (i : Nat) (h1 : 3015 ≤ i) (h2 : i < 3135) : boundsAll i = true := (Nat.lt_or_ge i 3075).elim (fun h => bounds_3015_3075 i h1 h) fun h => bounds_3075_3135 i h h2
theorem bounds_3135_3150 (i : Nat) (h1 : 3135 ≤ i) (h2 : i < 3150) : boundsAll i = true := span_spec bounds_3135 i h1 (by omega)
theorem bounds_3150_3165 (i : Nat) (h1 : 3150 ≤ i) (h2 : i < 3165) : boundsAll i = true := span_spec bounds_3150 i h1 (by omega)
theorem bounds_3135_3165 (i : Nat) (h1 : 3135 ≤ i) (h2 : i < 3165) : boundsAll i = true := (Nat.lt_or_ge i 3150).elim (fun h => bounds_3135_3150 i h1 h) fun h => bounds_3150_3165 i h h2
theorem bounds_3165_3180 (i : Nat) (h1 : 3165 ≤ i) (h2 : i < 3180) : boundsAll i = true := span_spec bounds_3165 i h1 (by omega)
theorem bounds_3180_3195 (i : Nat) (h1 : 3180 ≤ i) (h2 : i < 3195) : boundsAll i = true := span_spec bounds_3180 i h1 (by omega)
theorem bounds_3165_3195 (i : Nat) (h1 : 3165 ≤ i) (h2 : i < 3195) : boundsAll i = true := (Nat.lt_or_ge i 3180).elim (fun h => bounds_3165_3180 i h1 h) fun h => bounds_3180_3195 i h h2
theorem bounds_3135_3195 (i : Nat) (h1 : 3135 ≤ i) (h2 : i < 3195) : boundsAll i = true := (Nat.lt_or_ge i 3165).elim (fun h => bounds_3135_3165 i h1 h) fun h => bounds_3165_3195 i h h2
theorem bounds_3195_3210 (i : Nat) (h1 : 3195 ≤ i) (h2 : i < 3210) : boundsAll i = true := span_spec bounds_3195 i h1 (by omega)
theorem bounds_3210_3225 (i : Nat) (h1 : 3210 ≤ i) (h2 : i < 3225) : boundsAll i = true := span_spec bounds_3210 i h1 (by omega)
theorem bounds_3195_3225 (i : Nat) (h1 : 3195 ≤ i) (h2 : i < 3225) : boundsAll i = true := (Nat.lt_or_ge i 3210).elim (fun h => bounds_3195_3210 i h1 h) fun h => bounds_3210_3225 i h h2
theorem bounds_3225_3240 (i : Nat) (h1 : 3225 ≤ i) (h2 : i < 3240) : boundsAll i = true := span_spec bounds_3225 i h1 (by omega)
theorem bounds_3240_3255 (i : Nat) (h1 : 3240 ≤ i) (h2 : i < 3255) : boundsAll i = true := span_spec bounds_3240 i h1 (by omega)
theorem bounds_3225_3255 (i : Nat) (h1 : 3225 ≤ i) (h2 : i < 3255) : boundsAll i = true := (Nat.lt_or_ge i 3240).elim (fun h => bounds_3225_3240 i h1 h) fun h => bounds_3240_3255 i h h2
theorem bounds_3195_3255 (i : Nat) (h1 : 3195 ≤ i) (h2 : i < 3255) : boundsAll i = true := (Nat.lt_or_ge i 3225).elim (fun h => bounds_3195_3225 i h1 h) fun h => bounds_3225_3255 i h h2
theorem bounds_3135_3255 (i : Nat) (h1 : 3135 ≤ i) (h2 : i < 3255) : boundsAll i = true := (Nat.lt_or_ge i 3195).elim (fun h => bounds_3135_3195 i h1 h) fun h => bounds_3195_3255 i h h2
theorem bounds_3015_3255 (i : Nat) (h1 : 3015 ≤ i) (h2 : i < 3255) : boundsAll i = true := (Nat.lt_or_ge i 3135).elim (fun h => bounds_3015_3135 i h1 h) fun h => bounds_3135_3255 i h h2
theorem bounds_3255_3270 (i : Nat) (h1 : 3255 ≤ i) (h2 : i < 3270) : boundsAll i = true := span_spec bounds_3255 i h1 (by omega)
theorem bounds_3270_3285 (i : Nat) (h1 : 3270 ≤ i) (h2 : i < 3285) : boundsAll i = true := span_spec bounds_3270 i h1 (by omega)
theorem bounds_3255_3285 (i : Nat) (h1 : 3255 ≤ i) (h2 : i < 3285) : boundsAll i = true := (Nat.lt_or_ge i 3270).elim (fun h => bounds_3255_3270 i h1 h) fun h => bounds_3270_3285 i h h2
theorem bounds_3285_3300 (i : Nat) (h1 : 3285 ≤ i) (h2 : i < 3300) : boundsAll i = true := span_spec bounds_3285 i h1 (by omega)
theorem bounds_3300_3315 (i : Nat) (h1 : 3300 ≤ i) (h2 : i < 3315) : boundsAll i = true := span_spec bounds_3300 i h1 (by omega)
theorem bounds_3285_3315 (i : Nat) (h1 : 3285 ≤ i) (h2 : i < 3315) : boundsAll i = true := (Nat.lt_or_ge i 3300).elim (fun h => bounds_3285_3300 i h1 h) fun h => bounds_3300_3315 i h h2
theorem bounds_3255_3315 (i : Nat) (h1 : 3255 ≤ i) (h2 : i < 3315) : boundsAll i = true := (Nat.lt_or_ge i 3285).elim (fun h => bounds_3255_3285 i h1 h) fun h => bounds_3285_3315 i h h2
theorem bounds_3315_3330 (i : Nat) (h1 : 3315 ≤ i) (h2 : i < 3330) : boundsAll i = true := span_spec bounds_3315 i h1 (by omega)
theorem bounds_3330_3345 (i : Nat) (h1 : 3330 ≤ i) (h2 : i < 3345) : boundsAll i = true := span_spec bounds_3330 i h1 (by omega)
theorem bounds_3315_3345 (i : Nat) (h1 : 3315 ≤ i) (h2 : i < 3345) : boundsAll i = true := (Nat.lt_or_ge i 3330).elim (fun h => bounds_3315_3330 i h1 h) fun h => bounds_3330_3345 i h h2
theorem bounds_3345_3360 (i : Nat) (h1 : 3345 ≤ i) (h2 : i < 3360) : boundsAll i = true := span_spec bounds_3345 i h1 (by omega)
theorem bounds_3360_3375 (i : Nat) (h1 : 3360 ≤ i) (h2 : i < 3375) : boundsAll i = true := span_spec bounds_3360 i h1 (by omega)
theorem bounds_3345_3375 (i : Nat) (h1 : 3345 ≤ i) (h2 : i < 3375) : boundsAll i = true := (Nat.lt_or_ge i 3360).elim (fun h => bounds_3345_3360 i h1 h) fun h => bounds_3360_3375 i h h2
theorem bounds_3315_3375 (i : Nat) (h1 : 3315 ≤ i) (h2 : i < 3375) : boundsAll i = true := (Nat.lt_or_ge i 3345).elim (fun h => bounds_3315_3345 i h1 h) fun h => bounds_3345_3375 i h h2
theorem bounds_3255_3375 (i : Nat) (h1 : 3255 ≤ i) (h2 : i < 3375) : boundsAll i = true := (Nat.lt_or_ge i 3315).elim (fun h => bounds_3255_3315 i h1 h) fun h => bounds_3315_3375 i h h2
theorem bounds_3375_3390 (i : Nat) (h1 : 3375 ≤ i) (h2 : i < 3390) : boundsAll i = true := span_spec bounds_3375 i h1 (by omega)
theorem bounds_3390_3405 (i : Nat) (h1 : 3390 ≤ i) (h2 : i < 3405) : boundsAll i = true := span_spec bounds_3390 i h1 (by omega)
theorem bounds_3375_3405 (i : Nat) (h1 : 3375 ≤ i) (h2 : i < 3405) : boundsAll i = true := (Nat.lt_or_ge i 3390).elim (fun h => bounds_3375_3390 i h1 h) fun h => bounds_3390_3405 i h h2
theorem bounds_3405_3420 (i : Nat) (h1 : 3405 ≤ i) (h2 : i < 3420) : boundsAll i = true := span_spec bounds_3405 i h1 (by omega)
theorem bounds_3420_3435 (i : Nat) (h1 : 3420 ≤ i) (h2 : i < 3435) : boundsAll i = true := span_spec bounds_3420 i h1 (by omega)
theorem bounds_3405_3435 (i : Nat) (h1 : 3405 ≤ i) (h2 : i < 3435) : boundsAll i = true := (Nat.lt_or_ge i 3420).elim (fun h => bounds_3405_3420 i h1 h) fun h => bounds_3420_3435 i h h2
theorem bounds_3375_3435 (i : Nat) (h1 : 3375 ≤ i) (h2 : i < 3435) : boundsAll i = true := (Nat.lt_or_ge i 3405).elim (fun h => bounds_3375_3405 i h1 h) fun h => bounds_3405_3435 i h h2
theorem bounds_3435_3450 (i : Nat) (h1 : 3435 ≤ i) (h2 : i < 3450) : boundsAll i = true := span_spec bounds_3435 i h1 (by omega)
theorem bounds_3450_3465 (i : Nat) (h1 : 3450 ≤ i) (h2 : i < 3465) : boundsAll i = true := span_spec bounds_3450 i h1 (by omega)
theorem bounds_3435_3465 (i : Nat) (h1 : 3435 ≤ i) (h2 : i < 3465) : boundsAll i = true := (Nat.lt_or_ge i 3450).elim (fun h => bounds_3435_3450 i h1 h) fun h => bounds_3450_3465 i h h2
theorem bounds_3465_3480 (i : Nat) (h1 : 3465 ≤ i) (h2 : i < 3480) : boundsAll i = true := span_spec bounds_3465 i h1 (by omega)
theorem bounds_3480_3495 (i : Nat) (h1 : 3480 ≤ i) (h2 : i < 3495) : boundsAll i = true := span_spec bounds_3480 i h1 (by omega)
theorem bounds_3495_3510 (i : Nat) (h1 : 3495 ≤ i) (h2 : i < 3510) : boundsAll i = true := span_spec bounds_3495 i h1 (by omega)
theorem bounds_3480_3510 (i : Nat) (h1 : 3480 ≤ i) (h2 : i < 3510) : boundsAll i = true := (Nat.lt_or_ge i 3495).elim (fun h => bounds_3480_3495 i h1 h) fun h => bounds_3495_3510 i h h2
theorem bounds_3465_3510 (i : Nat) (h1 : 3465 ≤ i) (h2 : i < 3510) : boundsAll i = true := (Nat.lt_or_ge i 3480).elim (fun h => bounds_3465_3480 i h1 h) fun h => bounds_3480_3510 i h h2
theorem bounds_3435_3510 (i : Nat) (h1 : 3435 ≤ i) (h2 : i < 3510) : boundsAll i = true := (Nat.lt_or_ge i 3465).elim (fun h => bounds_3435_3465 i h1 h) fun h => bounds_3465_3510 i h h2
theorem bounds_3375_3510 (i : Nat) (h1 : 3375 ≤ i) (h2 : i < 3510) : boundsAll i = true := (Nat.lt_or_ge i 3435).elim (fun h => bounds_3375_3435 i h1 h) fun h => bounds_3435_3510 i h h2
theorem bounds_3255_3510 (i : Nat) (h1 : 3255 ≤ i) (h2 : i < 3510) : boundsAll i = true := (Nat.lt_or_ge i 3375).elim (fun h => bounds_3255_3375 i h1 h) fun h => bounds_3375_3510 i h h2
theorem bounds_3015_3510 (i : Nat) (h1 : 3015 ≤ i) (h2 : i < 3510) : boundsAll i = true := (Nat.lt_or_ge i 3255).elim (fun h => bounds_3015_3255 i h1 h) fun h => bounds_3255_3510 i h h2
theorem bounds_3510_3525 (i : Nat) (h1 : 3510 ≤ i) (h2 : i < 3525) : boundsAll i = true := span_spec bounds_3510 i h1 (by omega)
theorem bounds_3525_3540 (i : Nat) (h1 : 3525 ≤ i) (h2 : i < 3540) : boundsAll i = true := span_spec bounds_3525 i h1 (by omega)
theorem bounds_3510_3540 (i : Nat) (h1 : 3510 ≤ i) (h2 : i < 3540) : boundsAll i = true := (Nat.lt_or_ge i 3525).elim (fun h => bounds_3510_3525 i h1 h) fun h => bounds_3525_3540 i h h2
theorem bounds_3540_3555 (i : Nat) (h1 : 3540 ≤ i) (h2 : i < 3555) : boundsAll i = true := span_spec bounds_3540 i h1 (by omega)
theorem bounds_3555_3570 (i : Nat) (h1 : 3555 ≤ i) (h2 : i < 3570) : boundsAll i = true := span_spec bounds_3555 i h1 (by omega)
theorem bounds_3540_3570 (i : Nat) (h1 : 3540 ≤ i) (h2 : i < 3570) : boundsAll i = true := (Nat.lt_or_ge i 3555).elim (fun h => bounds_3540_3555 i h1 h) fun h => bounds_3555_3570 i h h2
theorem bounds_3510_3570 (i : Nat) (h1 : 3510 ≤ i) (h2 : i < 3570) : boundsAll i = true := (Nat.lt_or_ge i 3540).elim (fun h => bounds_3510_3540 i h1 h) fun h => bounds_3540_3570 i h h2
theorem bounds_3570_3585 (i : Nat) (h1 : 3570 ≤ i) (h2 : i < 3585) : boundsAll i = true := span_spec bounds_3570 i h1 (by omega)
theorem bounds_3585_3600 (i : Nat) (h1 : 3585 ≤ i) (h2 : i < 3600) : boundsAll i = true := span_spec bounds_3585 i h1 (by omega)
theorem bounds_3570_3600 (i : Nat) (h1 : 3570 ≤ i) (h2 : i < 3600) : boundsAll i = true := (Nat.lt_or_ge i 3585).elim (fun h => bounds_3570_3585 i h1 h) fun h => bounds_3585_3600 i h h2
theorem bounds_3600_3615 (i : Nat) (h1 : 3600 ≤ i) (h2 : i < 3615) : boundsAll i = true := span_spec bounds_3600 i h1 (by omega)
theorem bounds_3615_3630 (i : Nat) (h1 : 3615 ≤ i) (h2 : i < 3630) : boundsAll i = true := span_spec bounds_3615 i h1 (by omega)
theorem bounds_3600_3630 (i : Nat) (h1 : 3600 ≤ i) (h2 : i < 3630) : boundsAll i = true := (Nat.lt_or_ge i 3615).elim (fun h => bounds_3600_3615 i h1 h) fun h => bounds_3615_3630 i h h2
theorem bounds_3570_3630 (i : Nat) (h1 : 3570 ≤ i) (h2 : i < 3630) : boundsAll i = true := (Nat.lt_or_ge i 3600).elim (fun h => bounds_3570_3600 i h1 h) fun h => bounds_3600_3630 i h h2
theorem bounds_3510_3630 (i : Nat) (h1 : 3510 ≤ i) (h2 : i < 3630) : boundsAll i = true := (Nat.lt_or_ge i 3570).elim (fun h => bounds_3510_3570 i h1 h) fun h => bounds_3570_3630 i h h2
theorem bounds_3630_3645 (i : Nat) (h1 : 3630 ≤ i) (h2 : i < 3645) : boundsAll i = true := span_spec bounds_3630 i h1 (by omega)
theorem bounds_3645_3660 (i : Nat) (h1 : 3645 ≤ i) (h2 : i < 3660) : boundsAll i = true := span_spec bounds_3645 i h1 (by omega)
theorem bounds_3630_3660 (i : Nat) (h1 : 3630 ≤ i) (h2 : i < 3660) : boundsAll i = true := (Nat.lt_or_ge i 3645).elim (fun h => bounds_3630_3645 i h1 h) fun h => bounds_3645_3660 i h h2
theorem bounds_3660_3675 (i : Nat) (h1 : 3660 ≤ i) (h2 : i < 3675) : boundsAll i = true := span_spec bounds_3660 i h1 (by omega)
theorem bounds_3675_3690 (i : Nat) (h1 : 3675 ≤ i) (h2 : i < 3690) : boundsAll i = true := span_spec bounds_3675 i h1 (by omega)
theorem bounds_3660_3690 (i : Nat) (h1 : 3660 ≤ i) (h2 : i < 3690) : boundsAll i = true := (Nat.lt_or_ge i 3675).elim (fun h => bounds_3660_3675 i h1 h) fun h => bounds_3675_3690 i h h2
theorem bounds_3630_3690 (i : Nat) (h1 : 3630 ≤ i) (h2 : i < 3690) : boundsAll i = true := (Nat.lt_or_ge i 3660).elim (fun h => bounds_3630_3660 i h1 h) fun h => bounds_3660_3690 i h h2
theorem bounds_3690_3705 (i : Nat) (h1 : 3690 ≤ i) (h2 : i < 3705) : boundsAll i = true := span_spec bounds_3690 i h1 (by omega)
theorem bounds_3705_3720 (i : Nat) (h1 : 3705 ≤ i) (h2 : i < 3720) : boundsAll i = true := span_spec bounds_3705 i h1 (by omega)
theorem bounds_3690_3720 (i : Nat) (h1 : 3690 ≤ i) (h2 : i < 3720) : boundsAll i = true := (Nat.lt_or_ge i 3705).elim (fun h => bounds_3690_3705 i h1 h) fun h => bounds_3705_3720 i h h2
theorem bounds_3720_3735 (i : Nat) (h1 : 3720 ≤ i) (h2 : i < 3735) : boundsAll i = true := span_spec bounds_3720 i h1 (by omega)
theorem bounds_3735_3750 (i : Nat) (h1 : 3735 ≤ i) (h2 : i < 3750) : boundsAll i = true := span_spec bounds_3735 i h1 (by omega)
theorem bounds_3750_3765 (i : Nat) (h1 : 3750 ≤ i) (h2 : i < 3765) : boundsAll i = true := span_spec bounds_3750 i h1 (by omega)
theorem bounds_3735_3765 (i : Nat) (h1 : 3735 ≤ i) (h2 : i < 3765) : boundsAll i = true := (Nat.lt_or_ge i 3750).elim (fun h => bounds_3735_3750 i h1 h) fun h => bounds_3750_3765 i h h2
theorem bounds_3720_3765 (i : Nat) (h1 : 3720 ≤ i) (h2 : i < 3765) : boundsAll i = true := (Nat.lt_or_ge i 3735).elim (fun h => bounds_3720_3735 i h1 h) fun h => bounds_3735_3765 i h h2
theorem bounds_3690_3765 (i : Nat) (h1 : 3690 ≤ i) (h2 : i < 3765) : boundsAll i = true := (Nat.lt_or_ge i 3720).elim (fun h => bounds_3690_3720 i h1 h) fun h => bounds_3720_3765 i h h2
theorem bounds_3630_3765 (i : Nat) (h1 : 3630 ≤ i) (h2 : i < 3765) : boundsAll i = true := (Nat.lt_or_ge i 3690).elim (fun h => bounds_3630_3690 i h1 h) fun h => bounds_3690_3765 i h h2
theorem bounds_3510_3765 (i : Nat) (h1 : 3510 ≤ i) (h2 : i < 3765) : boundsAll i = true := (Nat.lt_or_ge i 3630).elim (fun h => bounds_3510_3630 i h1 h) fun h => bounds_3630_3765 i h h2
theorem bounds_3765_3780 (i : Nat) (h1 : 3765 ≤ i) (h2 : i < 3780) : boundsAll i = true := span_spec bounds_3765 i h1 (by omega)
theorem bounds_3780_3795 (i : Nat) (h1 : 3780 ≤ i) (h2 : i < 3795) : boundsAll i = true := span_spec bounds_3780 i h1 (by omega)
theorem bounds_3765_3795 (i : Nat) (h1 : 3765 ≤ i) (h2 : i < 3795) : boundsAll i = true := (Nat.lt_or_ge i 3780).elim (fun h => bounds_3765_3780 i h1 h) fun h => bounds_3780_3795 i h h2
theorem bounds_3795_3810 (i : Nat) (h1 : 3795 ≤ i) (h2 : i < 3810) : boundsAll i = true := span_spec bounds_3795 i h1 (by omega)
theorem bounds_3810_3825 (i : Nat) (h1 : 3810 ≤ i) (h2 : i < 3825) : boundsAll i = true := span_spec bounds_3810 i h1 (by omega)
theorem bounds_3795_3825 (i : Nat) (h1 : 3795 ≤ i) (h2 : i < 3825) : boundsAll i = true := (Nat.lt_or_ge i 3810).elim (fun h => bounds_3795_3810 i h1 h) fun h => bounds_3810_3825 i h h2
theorem bounds_3765_3825 (i : Nat) (h1 : 3765 ≤ i) (h2 : i < 3825) : boundsAll i = true := (Nat.lt_or_ge i 3795).elim (fun h => bounds_3765_3795 i h1 h) fun h => bounds_3795_3825 i h h2
theorem bounds_3825_3840 (i : Nat) (h1 : 3825 ≤ i) (h2 : i < 3840) : boundsAll i = true := span_spec bounds_3825 i h1 (by omega)
theorem bounds_3840_3855 (i : Nat) (h1 : 3840 ≤ i) (h2 : i < 3855) : boundsAll i = true := span_spec bounds_3840 i h1 (by omega)
theorem bounds_3825_3855 (i : Nat) (h1 : 3825 ≤ i) (h2 : i < 3855) : boundsAll i = true := (Nat.lt_or_ge i 3840).elim (fun h => bounds_3825_3840 i h1 h) fun h => bounds_3840_3855 i h h2
theorem bounds_3855_3870 (i : Nat) (h1 : 3855 ≤ i) (h2 : i < 3870) : boundsAll i = true := span_spec bounds_3855 i h1 (by omega)
theorem bounds_3870_3885 (i : Nat) (h1 : 3870 ≤ i) (h2 : i < 3885) : boundsAll i = true := span_spec bounds_3870 i h1 (by omega)
theorem bounds_3855_3885 (i : Nat) (h1 : 3855 ≤ i) (h2 : i < 3885) : boundsAll i = true := (Nat.lt_or_ge i 3870).elim (fun h => bounds_3855_3870 i h1 h) fun h => bounds_3870_3885 i h h2
theorem bounds_3825_3885 (i : Nat) (h1 : 3825 ≤ i) (h2 : i < 3885) : boundsAll i = true := (Nat.lt_or_ge i 3855).elim (fun h => bounds_3825_3855 i h1 h) fun h => bounds_3855_3885 i h h2
theorem bounds_3765_3885 (i : Nat) (h1 : 3765 ≤ i) (h2 : i < 3885) : boundsAll i = true := (Nat.lt_or_ge i 3825).elim (fun h => bounds_3765_3825 i h1 h) fun h => bounds_3825_3885 i h h2
theorem bounds_3885_3900 (i : Nat) (h1 : 3885 ≤ i) (h2 : i < 3900) : boundsAll i = true := span_spec bounds_3885 i h1 (by omega)
theorem bounds_3900_3915 (i : Nat) (h1 : 3900 ≤ i) (h2 : i < 3915) : boundsAll i = true := span_spec bounds_3900 i h1 (by omega)
theorem bounds_3885_3915 (i : Nat) (h1 : 3885 ≤ i) (h2 : i < 3915) : boundsAll i = true := (Nat.lt_or_ge i 3900).elim (fun h => bounds_3885_3900 i h1 h) fun h => bounds_3900_3915 i h h2
theorem bounds_3915_3930 (i : Nat) (h1 : 3915 ≤ i) (h2 : i < 3930) : boundsAll i = true := span_spec bounds_3915 i h1 (by omega)
theorem bounds_3930_3945 (i : Nat) (h1 : 3930 ≤ i) (h2 : i < 3945) : boundsAll i = true := span_spec bounds_3930 i h1 (by omega)
theorem bounds_3915_3945 (i : Nat) (h1 : 3915 ≤ i) (h2 : i < 3945) : boundsAll i = true := (Nat.lt_or_ge i 3930).elim (fun h => bounds_3915_3930 i h1 h) fun h => bounds_3930_3945 i h h2
theorem bounds_3885_3945 (i : Nat) (h1 : 3885 ≤ i) (h2 : i < 3945) : boundsAll i = true := (Nat.lt_or_ge i 3915).elim (fun h => bounds_3885_3915 i h1 h) fun h => bounds_3915_3945 i h h2
theorem bounds_3945_3960 (i : Nat) (h1 : 3945 ≤ i) (h2 : i < 3960) : boundsAll i = true := span_spec bounds_3945 i h1 (by omega)
theorem bounds_3960_3975 (i : Nat) (h1 : 3960 ≤ i) (h2 : i < 3975) : boundsAll i = true := span_spec bounds_3960 i h1 (by omega)
theorem bounds_3945_3975 (i : Nat) (h1 : 3945 ≤ i) (h2 : i < 3975) : boundsAll i = true := (Nat.lt_or_ge i 3960).elim (fun h => bounds_3945_3960 i h1 h) fun h => bounds_3960_3975 i h h2
theorem bounds_3975_3990 (i : Nat) (h1 : 3975 ≤ i) (h2 : i < 3990) : boundsAll i = true := span_spec bounds_3975 i h1 (by omega)
theorem bounds_3990_4005 (i : Nat) (h1 : 3990 ≤ i) (h2 : i < 4005) : boundsAll i = true := span_spec bounds_3990 i h1 (by omega)
theorem bounds_4005_4020 (i : Nat) (h1 : 4005 ≤ i) (h2 : i < 4020) : boundsAll i = true := span_spec bounds_4005 i h1 (by omega)
theorem bounds_3990_4020 (i : Nat) (h1 : 3990 ≤ i) (h2 : i < 4020) : boundsAll i = true := (Nat.lt_or_ge i 4005).elim (fun h => bounds_3990_4005 i h1 h) fun h => bounds_4005_4020 i h h2
theorem bounds_3975_4020 (i : Nat) (h1 : 3975 ≤ i) (h2 : i < 4020) : boundsAll i = true := (Nat.lt_or_ge i 3990).elim (fun h => bounds_3975_3990 i h1 h) fun h => bounds_3990_4020 i h h2
theorem bounds_3945_4020 (i : Nat) (h1 : 3945 ≤ i) (h2 : i < 4020) : boundsAll i = true := (Nat.lt_or_ge i 3975).elim (fun h => bounds_3945_3975 i h1 h) fun h => bounds_3975_4020 i h h2
theorem bounds_3885_4020 (i : Nat) (h1 : 3885 ≤ i) (h2 : i < 4020) : boundsAll i = true := (Nat.lt_or_ge i 3945).elim (fun h => bounds_3885_3945 i h1 h) fun h => bounds_3945_4020 i h h2
theorem bounds_3765_4020 (i : Nat) (h1 : 3765 ≤ i) (h2 : i < 4020) : boundsAll i = true := (Nat.lt_or_ge i 3885).elim (fun h => bounds_3765_3885 i h1 h) fun h => bounds_3885_4020 i h h2
theorem bounds_3510_4020 (i : Nat) (h1 : 3510 ≤ i) (h2 : i < 4020) : boundsAll i = true := (Nat.lt_or_ge i 3765).elim (fun h => bounds_3510_3765 i h1 h) fun h => bounds_3765_4020 i h h2
theorem bounds_3015_4020 (i : Nat) (h1 : 3015 ≤ i) (h2 : i < 4020) : boundsAll i = true := (Nat.lt_or_ge i 3510).elim (fun h => bounds_3015_3510 i h1 h) fun h => bounds_3510_4020 i h h2
theorem bounds_2010_4020 (i : Nat) (h1 : 2010 ≤ i) (h2 : i < 4020) : boundsAll i = true := (Nat.lt_or_ge i 3015).elim (fun h => bounds_2010_3015 i h1 h) fun h => bounds_3015_4020 i h h2
theorem bounds_0_4020 (i : Nat) (h1 : 0 ≤ i) (h2 : i < 4020) : boundsAll i = true := (Nat.lt_or_ge i 2010).elim (fun h => bounds_0_2010 i h1 h) fun h => bounds_2010_4020 i h h2
theorem bounds_all (i : Nat) (h : i < 4020) : boundsAll i = true := bounds_0_4020 i (Nat.zero_le _) h
/-- The bits of x. -/
@[reducible] def rhoX (x : Nat) : Rho := ⟨fun _ => 0, fun i => x.testBit i, fun _ => [], fun _ => Nat.zero_le _⟩
theorem names_val (x : Nat) (t : List Bt) : ∀ (n i : Nat), @natOf (rhoX x) t = x / 2 ^ (i + n) → @natOf (rhoX x) (namesF i n t) = x / 2 ^ i
  | 0, i, h => h
  | n + 1, i, h => by
    have e : x / 2 ^ (i + 1) = x / 2 ^ i / 2 := by rw [Nat.pow_succ, Nat.div_div_eq_div_mul]
    have h' := names_val x t n (i + 1) (by rw [h]; congr 2; omega)
    have hb : @bval (rhoX x) (.var i) = x / 2 ^ i % 2 := by
      show (bif x.testBit i then 1 else 0) = _
      rw [Nat.testBit_eq_decide_div_mod_eq]
      have : x / 2 ^ i % 2 = 0 ∨ x / 2 ^ i % 2 = 1 := by omega
      rcases this with e | e <;> simp [e]
    show @bval (rhoX x) (.var i) + 2 * @natOf (rhoX x) (namesF (i + 1) n t) = x / 2 ^ i
    rw [h', hb, e]
    omega
theorem shape_of (x : Nat) (h : x < 65536) : ∃ j, j < 10 ∧ @natOf (rhoX x) (shapeN j) = x := by
  by_cases h7 : x < 128
  · refine ⟨0, by decide, ?_⟩
    have := names_val x [] 7 0 (by
      show 0 = x / 2 ^ (0 + 7)
      rw [Nat.div_eq_of_lt]
      exact h7)
    have e : shapeN 0 = namesF 0 7 [] := rfl
    rw [e]
    simpa using this
  · have a := Nat.log2_self_le (n := x) (by omega)
    have b := Nat.lt_log2_self (n := x)
    have l1 : x.log2 < 16 := (Nat.pow_lt_pow_iff_right (by decide : 1 < 2)).1 (Nat.lt_of_le_of_lt a (by exact h))
    have l2 : 7 < x.log2 + 1 := (Nat.pow_lt_pow_iff_right (by decide : 1 < 2)).1 (Nat.lt_of_le_of_lt (by show 2 ^ 7 ≤ x; omega) b)
    refine ⟨x.log2 - 6, by omega, ?_⟩
    have hj : Nat.beq (x.log2 - 6) 0 = false := by
      rw [beq_eq]
      simp
      omega
    unfold shapeN
    rw [hj, cond_false]
    have hn : Nat.add (x.log2 - 6) 6 = x.log2 := by
      show x.log2 - 6 + 6 = x.log2
      omega
    rw [hn]
    have := names_val x [.one] x.log2 0 (by
      show 1 + 2 * 0 = x / 2 ^ (0 + x.log2)
      rw [Nat.zero_add]
      have : x / 2 ^ x.log2 = 1 := by
        rw [Nat.pow_succ] at b
        have h1 : 1 ≤ x / 2 ^ x.log2 := (Nat.le_div_iff_mul_le (Nat.two_pow_pos _)).2 (by omega)
        have h2 : x / 2 ^ x.log2 < 2 := (Nat.div_lt_iff_lt_mul (Nat.two_pow_pos _)).2 (by omega)
        omega
      rw [this])
    simpa using this
theorem half_in {a : Int} (w : (Lit.int .u16 a).wf = true) : ∃ n : Nat, n < 65536 ∧ a = Int.ofNat n := by
  have h : 0 ≤ a ∧ a ≤ 65535 := by
    simp only [Lit.wf, Bool.and_eq_true, decide_eq_true_eq] at w
    have h1 : IntKind.u16.min = 0 := by decide
    have h2 : IntKind.u16.max = 65535 := by decide
    rw [h1, h2] at w
    exact w
  exact ⟨a.toNat, by omega, by simp; omega⟩
theorem wireBounds (a0 : ByteArray) (a1 a2 : Int) (w0 : a0.size ≤ 140737488351232) (w1 : (Lit.int .u16 a1).wf = true) (w2 : (Lit.int .u16 a2).wf = true) (w : World) :
    Calls Try.prog 5 #[.string a0, .int .u16 a1, .int .u16 a2] w fun e w' => e = .returned (.bool true) ∧ Below w.heap.size w w' := by
  obtain ⟨n, hn, rfl⟩ := half_in w1
  obtain ⟨m, hm, rfl⟩ := half_in w2
  letI : Rho := rhoX n
  by_cases hL : a0.size ≤ 200
  · obtain ⟨j, hj, hv⟩ := shape_of n hn
    have e3 : ∀ q : Nat, q < 2 → Nat.div (a0.size * 20 + j * 2 + q) 20 = a0.size ∧ Nat.mod (Nat.div (a0.size * 20 + j * 2 + q) 2) 10 = j ∧ Nat.mod (a0.size * 20 + j * 2 + q) 2 = q := by
      intro q hq
      refine ⟨?_, ?_, ?_⟩
      · show (a0.size * 20 + j * 2 + q) / 20 = a0.size
        omega
      · show (a0.size * 20 + j * 2 + q) / 2 % 10 = j
        omega
      · show (a0.size * 20 + j * 2 + q) % 2 = q
        omega
    have hbit : VRel (fun _ _ => none) (.bits .u16 (shapeN j)) (.int .u16 (Int.ofNat n)) := by
      have h := VRel.bits (μ := fun _ _ => none) .u16 (shapeN j)
      rw [hv] at h
      exact h
    by_cases hle : n ≤ m
    · obtain ⟨e1, e2, e4⟩ := e3 1 (by decide)
      have h := bounds_all (a0.size * 20 + j * 2 + 1) (by omega)
      unfold boundsAll at h
      rw [e1, e2, e4] at h
      have hl : VRel (fun _ _ => none) (.least .u16 (shapeN j) (Nat.beq 1 1)) (.int .u16 (Int.ofNat m)) := .least _ (by omega) (by rw [hv, decide_eq_true hle]; rfl)
      exact R.top envKnown h (LRel.cons (.ustr (Nat.le_refl _) (Nat.le_refl _)) (LRel.cons hbit (LRel.cons hl (LRel.nil _)))) w
    · obtain ⟨e1, e2, e4⟩ := e3 0 (by decide)
      have h := bounds_all (a0.size * 20 + j * 2 + 0) (by omega)
      unfold boundsAll at h
      rw [e1, e2, e4] at h
      have hl : VRel (fun _ _ => none) (.least .u16 (shapeN j) (Nat.beq 0 1)) (.int .u16 (Int.ofNat m)) := .least _ (by omega) (by rw [hv, decide_eq_false hle]; rfl)
      exact R.top envKnown h (LRel.cons (.ustr (Nat.le_refl _) (Nat.le_refl _)) (LRel.cons hbit (LRel.cons hl (LRel.nil _)))) w
  · exact R.top envKnown bounds_long (LRel.cons (.ustr (by omega) w0) (LRel.cons (.undef _) (LRel.cons (.undef _) (LRel.nil _)))) w
end Go.Proofs.Ytejmdglmldjliaa.Ae
