/- The calls that are told hold of the program. -/
import Derived.Test.YtlgdojkmbfbnjaaGreatDoorGA
import Derived.Test.YtlgdojkmbfbnjaaGreatDoorPk0
import Derived.Test.YtlgdojkmbfbnjaaGreatDoorPk1
import Derived.Test.YtlgdojkmbfbnjaaGreatDoorPk2
import Derived.Test.YtlgdojkmbfbnjaaGreatDoorPk3
import Derived.Test.YtlgdojkmbfbnjaaGreatDoorPk4
import Derived.Test.YtlgdojkmbfbnjaaGreatDoorPk5
import Derived.Test.YtlgdojkmbfbnjaaGreatDoorPk6
import Derived.Test.YtlgdojkmbfbnjaaGreatDoorPk7
import Derived.Test.YtlgdojkmbfbnjaaGreatDoorPk8
import Derived.Test.YtlgdojkmbfbnjaaGreatDoorPk9
import Derived.Test.YtlgdojkmbfbnjaaGreatDoorPk10
import Derived.Test.YtlgdojkmbfbnjaaGreatDoorPk11
namespace Go.Proofs.YtlgdojkmbfbnjaaGreatDoor
open Go.RowKit
set_option maxRecDepth 10000
theorem v0o : Kt v0 := ckB_ok (t := []) K0 v0k
theorem v2o : Kt v2 := ckB_ok (t := []) K0 v2k
theorem v4o : Kt v4 := ckB_ok (t := []) K0 v4k
theorem v6o : Kt v6 := ckB_ok (t := []) K0 v6k
theorem v8o : Kt v8 := ckB_ok (t := []) K0 v8k
theorem v10o : Kt v10 := ckB_ok (t := []) K0 v10k
theorem v12o : Kt v12 := ckB_ok (t := []) K0 v12k
theorem v14o : Kt v14 := ckB_ok (t := []) K0 v14k
theorem v16o : Kt v16 := ckB_ok (t := []) K0 v16k
theorem v18o : Kt v18 := ckB_ok (t := []) K0 v18k
theorem v20o : Kt v20 := ckB_ok (t := []) K0 v20k
theorem v22o : Kt v22 := ckB_ok (t := []) K0 v22k
theorem v24o : Kt v24 := ckB_ok (t := []) K0 v24k
theorem v26o : Kt v26 := ckB_ok (t := []) K0 v26k
theorem v28o : Kt v28 := ckB_ok (t := []) K0 v28k
theorem b30o : Kt b30 := ckB_ok (t := []) K0 b30k
theorem b31o : Kt b31 := ckB_ok (t := []) K0 b31k
theorem b32o : Kt b32 := ckB_ok (t := []) K0 b32k
theorem b33o : Kt b33 := ckB_ok (t := []) K0 b33k
theorem b34o : Kt b34 := ckB_ok (t := []) K0 b34k
theorem b35o : Kt b35 := ckB_ok (t := []) K0 b35k
theorem b36o : Kt b36 := ckB_ok (t := []) K0 b36k
theorem b37o : Kt b37 := ckB_ok (t := []) K0 b37k
theorem b38o : Kt b38 := ckB_ok (t := []) K0 b38k
theorem b39o : Kt b39 := ckB_ok (t := []) K0 b39k
theorem b40o : Kt b40 := ckB_ok (t := []) K0 b40k
theorem v1o : Kt v1 := ckB_ok (t := v0) v0o v1k
theorem v3o : Kt v3 := ckB_ok (t := v2) v2o v3k
theorem v5o : Kt v5 := ckB_ok (t := v4) v4o v5k
theorem v7o : Kt v7 := ckB_ok (t := v6) v6o v7k
theorem v9o : Kt v9 := ckB_ok (t := v8) v8o v9k
theorem v11o : Kt v11 := ckB_ok (t := v10) v10o v11k
theorem v13o : Kt v13 := ckB_ok (t := v12) v12o v13k
theorem v15o : Kt v15 := ckB_ok (t := v14) v14o v15k
theorem v17o : Kt v17 := ckB_ok (t := v16) v16o v17k
theorem v19o : Kt v19 := ckB_ok (t := v18) v18o v19k
theorem v21o : Kt v21 := ckB_ok (t := v20) v20o v21k
theorem v23o : Kt v23 := ckB_ok (t := v22) v22o v23k
theorem v25o : Kt v25 := ckB_ok (t := v24) v24o v25k
theorem v27o : Kt v27 := ckB_ok (t := v26) v26o v27k
theorem v29o : Kt v29 := ckB_ok (t := v28) v28o v29k
theorem b41o : Kt b41 := ckB_ok (t := e113 :: e112 :: e1 :: e0 :: []) ((((K0.c (b30o.at 0 rfl)).c (b31o.at 0 rfl)).c (b30o.at 2 rfl)).c (b32o.at 0 rfl)) b41k
theorem b42o : Kt b42 := ckB_ok (t := e232 :: e231 :: e118 :: e117 :: e103 :: e102 :: e101 :: []) (((((((K0.c (b34o.at 0 rfl)).c (b34o.at 1 rfl)).c (b34o.at 2 rfl)).c (b34o.at 3 rfl)).c (b34o.at 4 rfl)).c (b35o.at 2 rfl)).c (b35o.at 3 rfl)) b42k
theorem b43o : Kt b43 := ckB_ok (t := e654 :: e653 :: e549 :: e548 :: e442 :: e441 :: e337 :: e336 :: []) ((((((((K0.c (b35o.at 4 rfl)).c (b35o.at 5 rfl)).c (b36o.at 0 rfl)).c (b36o.at 1 rfl)).c (b36o.at 3 rfl)).c (b36o.at 4 rfl)).c (b36o.at 5 rfl)).c (b37o.at 0 rfl)) b43k
theorem b44o : Kt b44 := ckB_ok (t := e1180 :: e1076 :: e1075 :: e969 :: e968 :: e864 :: e863 :: e759 :: e758 :: []) (((((((((K0.c (b37o.at 1 rfl)).c (b37o.at 2 rfl)).c (b37o.at 3 rfl)).c (b37o.at 4 rfl)).c (b37o.at 5 rfl)).c (b38o.at 0 rfl)).c (b38o.at 2 rfl)).c (b38o.at 3 rfl)).c (b38o.at 4 rfl)) b44k
theorem b45o : Kt b45 := ckB_ok (t := e1599 :: e1598 :: e1494 :: e1493 :: e1389 :: e1388 :: e1284 :: e1283 :: []) ((((((((K0.c (b38o.at 5 rfl)).c (b39o.at 0 rfl)).c (b39o.at 1 rfl)).c (b39o.at 2 rfl)).c (b39o.at 3 rfl)).c (b39o.at 4 rfl)).c (b39o.at 5 rfl)).c (b40o.at 0 rfl)) b45k
theorem b46o : Kt b46 := ckB_ok (t := e103 :: []) (K0.c (b34o.at 2 rfl)) b46k
theorem b47o : Kt b47 := ckB_ok (t := e117 :: []) (K0.c (b34o.at 3 rfl)) b47k
theorem b48o : Kt b48 := ckB_ok (t := e129 :: []) (K0.c (b35o.at 0 rfl)) b48k
theorem b49o : Kt b49 := ckB_ok (t := e131 :: []) (K0.c (b35o.at 1 rfl)) b49k
theorem b50o : Kt b50 := ckB_ok (t := e232 :: []) (K0.c (b35o.at 3 rfl)) b50k
theorem b51o : Kt b51 := ckB_ok (t := e337 :: []) (K0.c (b35o.at 5 rfl)) b51k
theorem b52o : Kt b52 := ckB_ok (t := e442 :: []) (K0.c (b36o.at 1 rfl)) b52k
theorem b53o : Kt b53 := ckB_ok (t := e449 :: []) (K0.c (b36o.at 2 rfl)) b53k
theorem b54o : Kt b54 := ckB_ok (t := e549 :: []) (K0.c (b36o.at 4 rfl)) b54k
theorem b55o : Kt b55 := ckB_ok (t := e654 :: []) (K0.c (b37o.at 0 rfl)) b55k
theorem b56o : Kt b56 := ckB_ok (t := e759 :: []) (K0.c (b37o.at 2 rfl)) b56k
theorem b57o : Kt b57 := ckB_ok (t := e864 :: []) (K0.c (b37o.at 4 rfl)) b57k
theorem b58o : Kt b58 := ckB_ok (t := e969 :: []) (K0.c (b38o.at 0 rfl)) b58k
theorem b59o : Kt b59 := ckB_ok (t := e976 :: []) (K0.c (b38o.at 1 rfl)) b59k
theorem b60o : Kt b60 := ckB_ok (t := e1076 :: []) (K0.c (b38o.at 3 rfl)) b60k
theorem b61o : Kt b61 := ckB_ok (t := e102 :: []) (K0.c (b34o.at 1 rfl)) b61k
theorem b62o : Kt b62 := ckB_ok (t := e1284 :: []) (K0.c (b39o.at 0 rfl)) b62k
theorem b63o : Kt b63 := ckB_ok (t := e1389 :: []) (K0.c (b39o.at 2 rfl)) b63k
theorem b64o : Kt b64 := ckB_ok (t := e1494 :: []) (K0.c (b39o.at 4 rfl)) b64k
theorem b65o : Kt b65 := ckB_ok (t := e1599 :: []) (K0.c (b40o.at 0 rfl)) b65k
theorem b66o : Kt b66 := ckB_ok (t := e117 :: e103 :: []) ((K0.c (b34o.at 2 rfl)).c (b34o.at 3 rfl)) b66k
theorem b67o : Kt b67 := ckB_ok (t := e337 :: e232 :: e117 :: []) (((K0.c (b34o.at 3 rfl)).c (b35o.at 3 rfl)).c (b35o.at 5 rfl)) b67k
theorem b68o : Kt b68 := ckB_ok (t := e549 :: e442 :: e337 :: []) (((K0.c (b35o.at 5 rfl)).c (b36o.at 1 rfl)).c (b36o.at 4 rfl)) b68k
theorem b69o : Kt b69 := ckB_ok (t := e864 :: e759 :: e654 :: []) (((K0.c (b37o.at 0 rfl)).c (b37o.at 2 rfl)).c (b37o.at 4 rfl)) b69k
theorem b70o : Kt b70 := ckB_ok (t := e1076 :: e969 :: e864 :: []) (((K0.c (b37o.at 4 rfl)).c (b38o.at 0 rfl)).c (b38o.at 3 rfl)) b70k
theorem b71o : Kt b71 := ckB_ok (t := e1389 :: e1284 :: e102 :: []) (((K0.c (b34o.at 1 rfl)).c (b39o.at 0 rfl)).c (b39o.at 2 rfl)) b71k
theorem b72o : Kt b72 := ckB_ok (t := e1599 :: e1494 :: e1389 :: []) (((K0.c (b39o.at 2 rfl)).c (b39o.at 4 rfl)).c (b40o.at 0 rfl)) b72k
theorem b73o : Kt b73 := ckB_ok (t := (v20 ++ v21)) (v20o.app v21o) b73k
theorem b74o : Kt b74 := ckB_ok (t := (v0 ++ v1)) (v0o.app v1o) b74k
theorem b75o : Kt b75 := ckB_ok (t := (v2 ++ v3)) (v2o.app v3o) b75k
theorem b76o : Kt b76 := ckB_ok (t := (v4 ++ v5)) (v4o.app v5o) b76k
theorem b77o : Kt b77 := ckB_ok (t := (v6 ++ v7)) (v6o.app v7o) b77k
theorem b78o : Kt b78 := ckB_ok (t := (v8 ++ v9)) (v8o.app v9o) b78k
theorem b79o : Kt b79 := ckB_ok (t := (v10 ++ v11)) (v10o.app v11o) b79k
theorem b80o : Kt b80 := ckB_ok (t := (v12 ++ v13)) (v12o.app v13o) b80k
theorem b81o : Kt b81 := ckB_ok (t := (v14 ++ v15)) (v14o.app v15o) b81k
theorem b82o : Kt b82 := ckB_ok (t := (v16 ++ v17)) (v16o.app v17o) b82k
theorem b83o : Kt b83 := ckB_ok (t := (v18 ++ v19)) (v18o.app v19o) b83k
theorem b84o : Kt b84 := ckB_ok (t := (v22 ++ v23)) (v22o.app v23o) b84k
theorem b85o : Kt b85 := ckB_ok (t := (v24 ++ v25)) (v24o.app v25o) b85k
theorem b86o : Kt b86 := ckB_ok (t := (v26 ++ v27)) (v26o.app v27o) b86k
theorem b87o : Kt b87 := ckB_ok (t := (v28 ++ v29)) (v28o.app v29o) b87k
theorem b88o : Kt b88 := ckB_ok (t := e1600 :: e1495 :: e1390 :: e1285 :: e1077 :: e970 :: e865 :: e760 :: e655 :: e550 :: e443 :: e338 :: e233 :: e119 :: e107 :: e104 :: []) ((((((((((((((((K0.c (b42o.at 0 rfl)).c (b42o.at 2 rfl)).c (b42o.at 3 rfl)).c (b42o.at 5 rfl)).c (b43o.at 0 rfl)).c (b43o.at 2 rfl)).c (b43o.at 4 rfl)).c (b43o.at 6 rfl)).c (b44o.at 0 rfl)).c (b44o.at 2 rfl)).c (b44o.at 4 rfl)).c (b44o.at 6 rfl)).c (b45o.at 0 rfl)).c (b45o.at 2 rfl)).c (b45o.at 4 rfl)).c (b45o.at 6 rfl)) b88k
theorem b89o : Kt b89 := ckB_ok (t := e1177 :: v20) (v20o.c (b73o.at 0 rfl)) b89k
theorem b90o : Kt b90 := ckB_ok (t := e98 :: v0) (v0o.c (b74o.at 0 rfl)) b90k
theorem b91o : Kt b91 := ckB_ok (t := e228 :: v2) (v2o.c (b75o.at 0 rfl)) b91k
theorem b92o : Kt b92 := ckB_ok (t := e333 :: v4) (v4o.c (b76o.at 0 rfl)) b92k
theorem b93o : Kt b93 := ckB_ok (t := e438 :: v6) (v6o.c (b77o.at 0 rfl)) b93k
theorem b94o : Kt b94 := ckB_ok (t := e545 :: v8) (v8o.c (b78o.at 0 rfl)) b94k
theorem b95o : Kt b95 := ckB_ok (t := e650 :: v10) (v10o.c (b79o.at 0 rfl)) b95k
theorem b96o : Kt b96 := ckB_ok (t := e755 :: v12) (v12o.c (b80o.at 0 rfl)) b96k
theorem b97o : Kt b97 := ckB_ok (t := e860 :: v14) (v14o.c (b81o.at 0 rfl)) b97k
theorem b98o : Kt b98 := ckB_ok (t := e965 :: v16) (v16o.c (b82o.at 0 rfl)) b98k
theorem b99o : Kt b99 := ckB_ok (t := e1072 :: v18) (v18o.c (b83o.at 0 rfl)) b99k
theorem b100o : Kt b100 := ckB_ok (t := e1280 :: v22) (v22o.c (b84o.at 0 rfl)) b100k
theorem b101o : Kt b101 := ckB_ok (t := e1385 :: v24) (v24o.c (b85o.at 0 rfl)) b101k
theorem b102o : Kt b102 := ckB_ok (t := e1490 :: v26) (v26o.c (b86o.at 0 rfl)) b102k
theorem b103o : Kt b103 := ckB_ok (t := e1595 :: v28) (v28o.c (b87o.at 0 rfl)) b103k
theorem b104o : Kt b104 := ckB_ok (t := e1595 :: e1490 :: e1385 :: e1280 :: e1177 :: e1072 :: e965 :: e860 :: e755 :: e650 :: e545 :: e438 :: e333 :: e228 :: e98 :: []) (((((((((((((((K0.c (b74o.at 0 rfl)).c (b75o.at 0 rfl)).c (b76o.at 0 rfl)).c (b77o.at 0 rfl)).c (b78o.at 0 rfl)).c (b79o.at 0 rfl)).c (b80o.at 0 rfl)).c (b81o.at 0 rfl)).c (b82o.at 0 rfl)).c (b83o.at 0 rfl)).c (b73o.at 0 rfl)).c (b84o.at 0 rfl)).c (b85o.at 0 rfl)).c (b86o.at 0 rfl)).c (b87o.at 0 rfl)) b104k
theorem b105o : Kt b105 := ckB_ok (t := e450 :: e448 :: e447 :: e446 :: e445 :: e444 :: e443 :: e442 :: e441 :: e343 :: e342 :: e341 :: e340 :: e339 :: e338 :: e337 :: e336 :: e238 :: e237 :: e236 :: e235 :: e234 :: e233 :: e232 :: e231 :: e132 :: e130 :: e128 :: e127 :: e125 :: e124 :: e123 :: e122 :: e121 :: e120 :: e119 :: e118 :: e117 :: e110 :: e109 :: e108 :: e107 :: e106 :: e105 :: e104 :: e103 :: e102 :: e101 :: []) ((((((((((((((((((((((((((((((((((((((((((((((((K0.c (b34o.at 0 rfl)).c (b34o.at 1 rfl)).c (b34o.at 2 rfl)).c (b42o.at 0 rfl)).c (b46o.at 0 rfl)).c (b42o.at 1 rfl)).c (b42o.at 2 rfl)).c (b88o.at 0 rfl)).c (b66o.at 0 rfl)).c (b66o.at 1 rfl)).c (b34o.at 3 rfl)).c (b34o.at 4 rfl)).c (b42o.at 3 rfl)).c (b47o.at 0 rfl)).c (b42o.at 4 rfl)).c (b88o.at 1 rfl)).c (b66o.at 2 rfl)).c (b66o.at 3 rfl)).c (b66o.at 4 rfl)).c (b67o.at 0 rfl)).c (b67o.at 1 rfl)).c (b48o.at 0 rfl)).c (b49o.at 0 rfl)).c (b35o.at 2 rfl)).c (b35o.at 3 rfl)).c (b42o.at 5 rfl)).c (b50o.at 0 rfl)).c (b42o.at 6 rfl)).c (b88o.at 2 rfl)).c (b67o.at 2 rfl)).c (b67o.at 3 rfl)).c (b35o.at 4 rfl)).c (b35o.at 5 rfl)).c (b43o.at 0 rfl)).c (b51o.at 0 rfl)).c (b43o.at 1 rfl)).c (b88o.at 3 rfl)).c (b67o.at 4 rfl)).c (b68o.at 0 rfl)).c (b36o.at 0 rfl)).c (b36o.at 1 rfl)).c (b43o.at 2 rfl)).c (b52o.at 0 rfl)).c (b43o.at 3 rfl)).c (b88o.at 4 rfl)).c (b68o.at 1 rfl)).c (b68o.at 2 rfl)).c (b53o.at 0 rfl)) b105k
theorem b106o : Kt b106 := ckB_ok (t := e1500 :: e1499 :: e1498 :: e1497 :: e1496 :: e1495 :: e1494 :: e1493 :: e1395 :: e1394 :: e1393 :: e1392 :: e1391 :: e1390 :: e1389 :: e1388 :: e1290 :: e1289 :: e1288 :: e1287 :: e1286 :: e1285 :: e1284 :: e1283 :: e1185 :: e1184 :: e1183 :: e1182 :: e1181 :: e1180 :: e1082 :: e1081 :: e1080 :: e1079 :: e1078 :: e1077 :: e1076 :: e1075 :: e977 :: e975 :: e974 :: e973 :: e972 :: e971 :: e970 :: e969 :: e968 :: e870 :: e869 :: e868 :: e867 :: e866 :: e865 :: e864 :: e863 :: e765 :: e764 :: e763 :: e762 :: e761 :: e760 :: e759 :: e758 :: e660 :: e659 :: e658 :: e657 :: e656 :: e655 :: e654 :: e653 :: e555 :: e554 :: e553 :: e552 :: e551 :: e550 :: e549 :: e548 :: e107 :: e102 :: []) (((((((((((((((((((((((((((((((((((((((((((((((((((((((((((((((((((((((((((((((((K0.c (b34o.at 1 rfl)).c (b42o.at 2 rfl)).c (b36o.at 3 rfl)).c (b36o.at 4 rfl)).c (b43o.at 4 rfl)).c (b54o.at 0 rfl)).c (b43o.at 5 rfl)).c (b88o.at 5 rfl)).c (b68o.at 3 rfl)).c (b68o.at 4 rfl)).c (b36o.at 5 rfl)).c (b37o.at 0 rfl)).c (b43o.at 6 rfl)).c (b55o.at 0 rfl)).c (b43o.at 7 rfl)).c (b88o.at 6 rfl)).c (b69o.at 0 rfl)).c (b69o.at 1 rfl)).c (b37o.at 1 rfl)).c (b37o.at 2 rfl)).c (b44o.at 0 rfl)).c (b56o.at 0 rfl)).c (b44o.at 1 rfl)).c (b88o.at 7 rfl)).c (b69o.at 2 rfl)).c (b69o.at 3 rfl)).c (b37o.at 3 rfl)).c (b37o.at 4 rfl)).c (b44o.at 2 rfl)).c (b57o.at 0 rfl)).c (b44o.at 3 rfl)).c (b88o.at 8 rfl)).c (b69o.at 4 rfl)).c (b70o.at 0 rfl)).c (b37o.at 5 rfl)).c (b38o.at 0 rfl)).c (b44o.at 4 rfl)).c (b58o.at 0 rfl)).c (b44o.at 5 rfl)).c (b88o.at 9 rfl)).c (b70o.at 1 rfl)).c (b70o.at 2 rfl)).c (b59o.at 0 rfl)).c (b38o.at 2 rfl)).c (b38o.at 3 rfl)).c (b44o.at 6 rfl)).c (b60o.at 0 rfl)).c (b44o.at 7 rfl)).c (b88o.at 10 rfl)).c (b70o.at 3 rfl)).c (b70o.at 4 rfl)).c (b38o.at 4 rfl)).c (b61o.at 0 rfl)).c (b44o.at 8 rfl)).c (b88o.at 11 rfl)).c (b71o.at 0 rfl)).c (b71o.at 1 rfl)).c (b38o.at 5 rfl)).c (b39o.at 0 rfl)).c (b45o.at 0 rfl)).c (b62o.at 0 rfl)).c (b45o.at 1 rfl)).c (b88o.at 12 rfl)).c (b71o.at 2 rfl)).c (b71o.at 3 rfl)).c (b39o.at 1 rfl)).c (b39o.at 2 rfl)).c (b45o.at 2 rfl)).c (b63o.at 0 rfl)).c (b45o.at 3 rfl)).c (b88o.at 13 rfl)).c (b71o.at 4 rfl)).c (b72o.at 0 rfl)).c (b39o.at 3 rfl)).c (b39o.at 4 rfl)).c (b45o.at 4 rfl)).c (b64o.at 0 rfl)).c (b45o.at 5 rfl)).c (b88o.at 14 rfl)).c (b72o.at 1 rfl)).c (b72o.at 2 rfl)) b106k
theorem b107o : Kt b107 := ckB_ok (t := e1605 :: e1604 :: e1603 :: e1602 :: e1601 :: e1600 :: e1599 :: e1598 :: e107 :: e102 :: []) ((((((((((K0.c (b34o.at 1 rfl)).c (b42o.at 2 rfl)).c (b39o.at 5 rfl)).c (b40o.at 0 rfl)).c (b45o.at 6 rfl)).c (b65o.at 0 rfl)).c (b45o.at 7 rfl)).c (b88o.at 15 rfl)).c (b72o.at 3 rfl)).c (b72o.at 4 rfl)) b107k
theorem b108o : Kt b108 := ckB_ok (t := e133 :: e126 :: e116 :: e115 :: e114 :: []) (((((K0.c (b41o.at 1 rfl)).c (b33o.at 2 rfl)).c (b33o.at 3 rfl)).c (b105o.at 1 rfl)).c (b105o.at 2 rfl)) b108k
end Go.Proofs.YtlgdojkmbfbnjaaGreatDoor
