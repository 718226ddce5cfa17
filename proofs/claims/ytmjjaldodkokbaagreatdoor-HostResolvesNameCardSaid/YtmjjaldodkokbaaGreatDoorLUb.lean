/-
 A name is looked up: hops, part 12. Conditions: none.
-/
import Derived.Test.YtmjjaldodkokbaaGreatDoorLUs
namespace Go.Proofs.YtmjjaldodkokbaaGreatDoor
open Go Go.Ax Go.RowKit Go.Proofs
theorem Qwq:HU 1 4 2 [1,0,0,0] Qq1 [0] [(1363,V 481),(1364,V 480),(1365,V 480),(1366,V 483)] [(1347,1349),(1343,1345),(1311,1285)] Qpz:=by unfold HU Qll;kernel_rfl
theorem Qwp:HU 1 4 2 [1,0,0,1] Qq1 [0] [(1363,V 481),(1364,V 480),(1365,V 482),(1366,V 483)] [(1347,1350),(1343,1346),(1311,1285)] Qpz:=by unfold HU Qll;kernel_rfl
theorem Qwo:HU 1 4 2 [1,0,1,0] Qq1 [0] [(1363,V 481),(1364,V 480),(1365,V 482),(1366,V 483)] [(1347,1351),(1343,1347),(1311,1285)] Qpz:=by unfold HU Qll;kernel_rfl
theorem Qwn:HU 1 4 2 [1,0,1,1] Qq1 [0] [(1363,V 481),(1364,V 480),(1365,V 481),(1366,V 483)] [(1347,1350),(1343,1346),(1311,1285)] Qpz:=by unfold HU Qll;kernel_rfl
theorem Qwm:HU 1 4 2 [1,1,0,0] Qq1 [0] [(1363,V 482),(1364,V 480),(1365,V 481),(1366,V 483)] [(1347,1348),(1343,1344),(1311,1298)] Qpz:=by unfold HU Qll;kernel_rfl
theorem Qwl:HU 1 4 2 [1,1,0,1] Qq1 [0] [(1363,V 482),(1364,V 480),(1365,V 482),(1366,V 483)] [(1347,1349),(1343,1345),(1311,1298)] Qpz:=by unfold HU Qll;kernel_rfl
theorem Qwk:HU 1 4 2 [1,1,1,0] Qq1 [0] [(1363,V 483),(1364,V 480),(1365,V 482),(1366,V 483)] [] Qpz:=by unfold HU Qll;kernel_rfl
theorem Zgj:HE Qso [1,0] [(1616,V 1245),(1617,V 1246),(1618,V 1247),(1619,V 1248)] [] sE2:=by unfold HE Qll;kernel_rfl
theorem Zgf:HE Qry [1,0] [(1616,V 1304),(1617,V 1305),(1618,V 1306),(1619,V 1307)] [(1233,1290),(1229,1286),(1209,1260)] sE2:=by unfold HE Qll;kernel_rfl
theorem Zg9:HE Qpz [1,0] [(1616,V 1363),(1617,V 1364),(1618,V 1365),(1619,V 1366)] [(1233,1347),(1229,1343),(1209,1311)] sE2:=by unfold HE Qll;kernel_rfl
theorem Z07:HU 1 2 2 [0,1] Z0h [0] [(1403,V 480),(1404,V 481),(1405,V 480),(1406,V 481)] [] Qsn:=by unfold HU Qll;kernel_rfl
theorem Z06:HU 1 2 2 [1,0] Z0h [0] [(1403,V 481),(1404,V 480),(1405,V 480),(1406,V 481)] [] Qsn:=by unfold HU Qll;kernel_rfl
theorem Qya:HU 1 3 2 [0,0,1] Qs1 [0] [(1462,V 480),(1463,V 482),(1464,V 481),(1465,V 482)] [] Qrx:=by unfold HU Qll;kernel_rfl
theorem Qy9:HU 1 3 2 [0,1,0] Qs1 [0] [(1462,V 480),(1463,V 481),(1464,V 481),(1465,V 482)] [(1448,1450),(1444,1446),(1418,1405)] Qrx:=by unfold HU Qll;kernel_rfl
theorem Qy8:HU 1 3 2 [0,1,1] Qs1 [0] [(1462,V 480),(1463,V 481),(1464,V 480),(1465,V 482)] [(1448,1449),(1444,1445),(1418,1405)] Qrx:=by unfold HU Qll;kernel_rfl
theorem Qy7:HU 1 3 2 [1,0,0] Qs1 [0] [(1462,V 481),(1463,V 480),(1464,V 480),(1465,V 482)] [(1448,1449),(1444,1445),(1418,1405)] Qrx:=by unfold HU Qll;kernel_rfl
theorem Qy6:HU 1 3 2 [1,0,1] Qs1 [0] [(1462,V 481),(1463,V 480),(1464,V 481),(1465,V 482)] [(1448,1450),(1444,1446),(1418,1405)] Qrx:=by unfold HU Qll;kernel_rfl
theorem Qy5:HU 1 3 2 [1,1,0] Qs1 [0] [(1462,V 482),(1463,V 480),(1464,V 481),(1465,V 482)] [] Qrx:=by unfold HU Qll;kernel_rfl
theorem Qwj:HU 1 4 2 [0,0,0,1] Qq0 [0] [(1521,V 480),(1522,V 483),(1523,V 482),(1524,V 483)] [] Qpy:=by unfold HU Qll;kernel_rfl
theorem Qwi:HU 1 4 2 [0,0,1,0] Qq0 [0] [(1521,V 480),(1522,V 482),(1523,V 482),(1524,V 483)] [(1505,1507),(1501,1503),(1469,1456)] Qpy:=by unfold HU Qll;kernel_rfl
theorem Qwh:HU 1 4 2 [0,0,1,1] Qq0 [0] [(1521,V 480),(1522,V 482),(1523,V 481),(1524,V 483)] [(1505,1506),(1501,1502),(1469,1456)] Qpy:=by unfold HU Qll;kernel_rfl
theorem Qwg:HU 1 4 2 [0,1,0,0] Qq0 [0] [(1521,V 480),(1522,V 481),(1523,V 481),(1524,V 483)] [(1505,1508),(1501,1504),(1469,1443)] Qpy:=by unfold HU Qll;kernel_rfl
theorem Qwf:HU 1 4 2 [0,1,0,1] Qq0 [0] [(1521,V 480),(1522,V 481),(1523,V 482),(1524,V 483)] [(1505,1509),(1501,1505),(1469,1443)] Qpy:=by unfold HU Qll;kernel_rfl
theorem Qwe:HU 1 4 2 [0,1,1,0] Qq0 [0] [(1521,V 480),(1522,V 481),(1523,V 482),(1524,V 483)] [(1505,1508),(1501,1504),(1469,1443)] Qpy:=by unfold HU Qll;kernel_rfl
theorem Qwd:HU 1 4 2 [0,1,1,1] Qq0 [0] [(1521,V 480),(1522,V 481),(1523,V 480),(1524,V 483)] [(1505,1507),(1501,1503),(1469,1443)] Qpy:=by unfold HU Qll;kernel_rfl
theorem Qwc:HU 1 4 2 [1,0,0,0] Qq0 [0] [(1521,V 481),(1522,V 480),(1523,V 480),(1524,V 483)] [(1505,1507),(1501,1503),(1469,1443)] Qpy:=by unfold HU Qll;kernel_rfl
theorem Qwb:HU 1 4 2 [1,0,0,1] Qq0 [0] [(1521,V 481),(1522,V 480),(1523,V 482),(1524,V 483)] [(1505,1508),(1501,1504),(1469,1443)] Qpy:=by unfold HU Qll;kernel_rfl
theorem Qwa:HU 1 4 2 [1,0,1,0] Qq0 [0] [(1521,V 481),(1522,V 480),(1523,V 482),(1524,V 483)] [(1505,1509),(1501,1505),(1469,1443)] Qpy:=by unfold HU Qll;kernel_rfl
theorem Qw9:HU 1 4 2 [1,0,1,1] Qq0 [0] [(1521,V 481),(1522,V 480),(1523,V 481),(1524,V 483)] [(1505,1508),(1501,1504),(1469,1443)] Qpy:=by unfold HU Qll;kernel_rfl
theorem Qw8:HU 1 4 2 [1,1,0,0] Qq0 [0] [(1521,V 482),(1522,V 480),(1523,V 481),(1524,V 483)] [(1505,1506),(1501,1502),(1469,1456)] Qpy:=by unfold HU Qll;kernel_rfl
theorem Qw7:HU 1 4 2 [1,1,0,1] Qq0 [0] [(1521,V 482),(1522,V 480),(1523,V 482),(1524,V 483)] [(1505,1507),(1501,1503),(1469,1456)] Qpy:=by unfold HU Qll;kernel_rfl
theorem Qw6:HU 1 4 2 [1,1,1,0] Qq0 [0] [(1521,V 483),(1522,V 480),(1523,V 482),(1524,V 483)] [] Qpy:=by unfold HU Qll;kernel_rfl
theorem Zgi:HE Qsn [1,0] [(1783,V 1403),(1784,V 1404),(1785,V 1405),(1786,V 1406)] [] sF2:=by unfold HE Qll;kernel_rfl
theorem Zge:HE Qrx [1,0] [(1783,V 1462),(1784,V 1463),(1785,V 1464),(1786,V 1465)] [(1391,1448),(1387,1444),(1367,1418)] sF2:=by unfold HE Qll;kernel_rfl
theorem Zg8:HE Qpy [1,0] [(1783,V 1521),(1784,V 1522),(1785,V 1523),(1786,V 1524)] [(1391,1505),(1387,1501),(1367,1469)] sF2:=by unfold HE Qll;kernel_rfl
theorem Qy4:HU 1 3 3 [0,1,2] Qs0 [0] [(1304,V 480),(1305,V 481),(1306,V 482),(1307,V 480),(1308,V 481),(1309,V 482)] [] Qr6:=by unfold HU Qll;kernel_rfl
theorem Qy3:HU 1 3 3 [0,2,1] Qs0 [0] [(1304,V 480),(1305,V 482),(1306,V 481),(1307,V 480),(1308,V 481),(1309,V 482)] [] Qr6:=by unfold HU Qll;kernel_rfl
theorem Qy2:HU 1 3 3 [1,0,2] Qs0 [0] [(1304,V 481),(1305,V 480),(1306,V 482),(1307,V 480),(1308,V 481),(1309,V 482)] [] Qr6:=by unfold HU Qll;kernel_rfl
theorem Qy1:HU 1 3 3 [1,2,0] Qs0 [0] [(1304,V 482),(1305,V 480),(1306,V 481),(1307,V 480),(1308,V 481),(1309,V 482)] [] Qr6:=by unfold HU Qll;kernel_rfl
theorem Qy0:HU 1 3 3 [2,0,1] Qs0 [0] [(1304,V 481),(1305,V 482),(1306,V 480),(1307,V 480),(1308,V 481),(1309,V 482)] [] Qr6:=by unfold HU Qll;kernel_rfl
theorem Qxz:HU 1 3 3 [2,1,0] Qs0 [0] [(1304,V 482),(1305,V 481),(1306,V 480),(1307,V 480),(1308,V 481),(1309,V 482)] [] Qr6:=by unfold HU Qll;kernel_rfl
theorem Qw5:HU 1 4 3 [0,0,1,2] Qom [0] [(1365,V 480),(1366,V 482),(1367,V 483),(1368,V 481),(1369,V 482),(1370,V 483)] [] Qok:=by unfold HU Qll;kernel_rfl
theorem Qw4:HU 1 4 3 [0,0,2,1] Qom [0] [(1365,V 480),(1366,V 483),(1367,V 482),(1368,V 481),(1369,V 482),(1370,V 483)] [] Qok:=by unfold HU Qll;kernel_rfl
theorem Qw3:HU 1 4 3 [0,1,0,2] Qom [0] [(1365,V 480),(1366,V 481),(1367,V 483),(1368,V 481),(1369,V 482),(1370,V 483)] [(1349,1351),(1345,1347),(1313,1315)] Qok:=by unfold HU Qll;kernel_rfl
theorem Qw2:HU 1 4 3 [0,1,1,2] Qom [0] [(1365,V 480),(1366,V 481),(1367,V 483),(1368,V 480),(1369,V 482),(1370,V 483)] [(1349,1350),(1345,1346),(1313,1314)] Qok:=by unfold HU Qll;kernel_rfl
theorem Qw1:HU 1 4 3 [0,1,2,0] Qom [0] [(1365,V 480),(1366,V 481),(1367,V 482),(1368,V 481),(1369,V 482),(1370,V 483)] [(1349,1353),(1345,1349),(1313,1300)] Qok:=by unfold HU Qll;kernel_rfl
theorem Qw0:HU 1 4 3 [0,1,2,1] Qom [0] [(1365,V 480),(1366,V 481),(1367,V 482),(1368,V 480),(1369,V 482),(1370,V 483)] [(1349,1352),(1345,1348),(1313,1300)] Qok:=by unfold HU Qll;kernel_rfl
theorem Qvz:HU 1 4 3 [0,1,2,2] Qom [0] [(1365,V 480),(1366,V 481),(1367,V 482),(1368,V 480),(1369,V 481),(1370,V 483)] [(1349,1351),(1345,1347),(1313,1300)] Qok:=by unfold HU Qll;kernel_rfl
theorem Qvy:HU 1 4 3 [0,2,0,1] Qom [0] [(1365,V 480),(1366,V 483),(1367,V 481),(1368,V 481),(1369,V 482),(1370,V 483)] [(1349,1351),(1345,1347),(1313,1315)] Qok:=by unfold HU Qll;kernel_rfl
end Go.Proofs.YtmjjaldodkokbaaGreatDoor
