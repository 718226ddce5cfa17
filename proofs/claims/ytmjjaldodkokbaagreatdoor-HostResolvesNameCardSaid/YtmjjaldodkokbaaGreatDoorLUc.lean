/-
 A name is looked up: hops, part 13. Conditions: none.
-/
import Derived.Test.YtmjjaldodkokbaaGreatDoorLUs
namespace Go.Proofs.YtmjjaldodkokbaaGreatDoor
open Go Go.Ax Go.RowKit Go.Proofs
theorem Qvx:HU 1 4 3 [0,2,1,0] Qom [0] [(1365,V 480),(1366,V 482),(1367,V 481),(1368,V 481),(1369,V 482),(1370,V 483)] [(1349,1353),(1345,1349),(1313,1300)] Qok:=by unfold HU Qll;kernel_rfl
theorem Qvw:HU 1 4 3 [0,2,1,1] Qom [0] [(1365,V 480),(1366,V 482),(1367,V 481),(1368,V 480),(1369,V 481),(1370,V 483)] [(1349,1351),(1345,1347),(1313,1300)] Qok:=by unfold HU Qll;kernel_rfl
theorem Qvv:HU 1 4 3 [0,2,1,2] Qom [0] [(1365,V 480),(1366,V 482),(1367,V 481),(1368,V 480),(1369,V 482),(1370,V 483)] [(1349,1352),(1345,1348),(1313,1300)] Qok:=by unfold HU Qll;kernel_rfl
theorem Qvu:HU 1 4 3 [0,2,2,1] Qom [0] [(1365,V 480),(1366,V 483),(1367,V 481),(1368,V 480),(1369,V 482),(1370,V 483)] [(1349,1350),(1345,1346),(1313,1314)] Qok:=by unfold HU Qll;kernel_rfl
theorem Qvt:HU 1 4 3 [1,0,0,2] Qom [0] [(1365,V 481),(1366,V 480),(1367,V 483),(1368,V 480),(1369,V 482),(1370,V 483)] [(1349,1350),(1345,1346),(1313,1314)] Qok:=by unfold HU Qll;kernel_rfl
theorem Qvs:HU 1 4 3 [1,0,1,2] Qom [0] [(1365,V 481),(1366,V 480),(1367,V 483),(1368,V 481),(1369,V 482),(1370,V 483)] [(1349,1351),(1345,1347),(1313,1315)] Qok:=by unfold HU Qll;kernel_rfl
theorem Qvr:HU 1 4 3 [1,0,2,0] Qom [0] [(1365,V 481),(1366,V 480),(1367,V 482),(1368,V 480),(1369,V 482),(1370,V 483)] [(1349,1352),(1345,1348),(1313,1300)] Qok:=by unfold HU Qll;kernel_rfl
theorem Qvq:HU 1 4 3 [1,0,2,1] Qom [0] [(1365,V 481),(1366,V 480),(1367,V 482),(1368,V 481),(1369,V 482),(1370,V 483)] [(1349,1353),(1345,1349),(1313,1300)] Qok:=by unfold HU Qll;kernel_rfl
theorem Qvp:HU 1 4 3 [1,0,2,2] Qom [0] [(1365,V 481),(1366,V 480),(1367,V 482),(1368,V 480),(1369,V 481),(1370,V 483)] [(1349,1351),(1345,1347),(1313,1300)] Qok:=by unfold HU Qll;kernel_rfl
theorem Qvo:HU 1 4 3 [1,1,0,2] Qom [0] [(1365,V 482),(1366,V 480),(1367,V 483),(1368,V 481),(1369,V 482),(1370,V 483)] [] Qok:=by unfold HU Qll;kernel_rfl
theorem Qvn:HU 1 4 3 [1,1,2,0] Qom [0] [(1365,V 483),(1366,V 480),(1367,V 482),(1368,V 481),(1369,V 482),(1370,V 483)] [] Qok:=by unfold HU Qll;kernel_rfl
theorem Qvm:HU 1 4 3 [1,2,0,0] Qom [0] [(1365,V 482),(1366,V 480),(1367,V 481),(1368,V 480),(1369,V 481),(1370,V 483)] [(1349,1351),(1345,1347),(1313,1300)] Qok:=by unfold HU Qll;kernel_rfl
theorem Qvl:HU 1 4 3 [1,2,0,1] Qom [0] [(1365,V 482),(1366,V 480),(1367,V 481),(1368,V 481),(1369,V 482),(1370,V 483)] [(1349,1353),(1345,1349),(1313,1300)] Qok:=by unfold HU Qll;kernel_rfl
theorem Qvk:HU 1 4 3 [1,2,0,2] Qom [0] [(1365,V 482),(1366,V 480),(1367,V 481),(1368,V 480),(1369,V 482),(1370,V 483)] [(1349,1352),(1345,1348),(1313,1300)] Qok:=by unfold HU Qll;kernel_rfl
theorem Qvj:HU 1 4 3 [1,2,1,0] Qom [0] [(1365,V 483),(1366,V 480),(1367,V 481),(1368,V 481),(1369,V 482),(1370,V 483)] [(1349,1351),(1345,1347),(1313,1315)] Qok:=by unfold HU Qll;kernel_rfl
theorem Qvi:HU 1 4 3 [1,2,2,0] Qom [0] [(1365,V 483),(1366,V 480),(1367,V 481),(1368,V 480),(1369,V 482),(1370,V 483)] [(1349,1350),(1345,1346),(1313,1314)] Qok:=by unfold HU Qll;kernel_rfl
theorem Qvh:HU 1 4 3 [2,0,0,1] Qom [0] [(1365,V 481),(1366,V 483),(1367,V 480),(1368,V 480),(1369,V 482),(1370,V 483)] [(1349,1350),(1345,1346),(1313,1314)] Qok:=by unfold HU Qll;kernel_rfl
theorem Qvg:HU 1 4 3 [2,0,1,0] Qom [0] [(1365,V 481),(1366,V 482),(1367,V 480),(1368,V 480),(1369,V 482),(1370,V 483)] [(1349,1352),(1345,1348),(1313,1300)] Qok:=by unfold HU Qll;kernel_rfl
theorem Qvf:HU 1 4 3 [2,0,1,1] Qom [0] [(1365,V 481),(1366,V 482),(1367,V 480),(1368,V 480),(1369,V 481),(1370,V 483)] [(1349,1351),(1345,1347),(1313,1300)] Qok:=by unfold HU Qll;kernel_rfl
theorem Qve:HU 1 4 3 [2,0,1,2] Qom [0] [(1365,V 481),(1366,V 482),(1367,V 480),(1368,V 481),(1369,V 482),(1370,V 483)] [(1349,1353),(1345,1349),(1313,1300)] Qok:=by unfold HU Qll;kernel_rfl
theorem Qvd:HU 1 4 3 [2,0,2,1] Qom [0] [(1365,V 481),(1366,V 483),(1367,V 480),(1368,V 481),(1369,V 482),(1370,V 483)] [(1349,1351),(1345,1347),(1313,1315)] Qok:=by unfold HU Qll;kernel_rfl
theorem Qvc:HU 1 4 3 [2,1,0,0] Qom [0] [(1365,V 482),(1366,V 481),(1367,V 480),(1368,V 480),(1369,V 481),(1370,V 483)] [(1349,1351),(1345,1347),(1313,1300)] Qok:=by unfold HU Qll;kernel_rfl
theorem Qvb:HU 1 4 3 [2,1,0,1] Qom [0] [(1365,V 482),(1366,V 481),(1367,V 480),(1368,V 480),(1369,V 482),(1370,V 483)] [(1349,1352),(1345,1348),(1313,1300)] Qok:=by unfold HU Qll;kernel_rfl
theorem Qva:HU 1 4 3 [2,1,0,2] Qom [0] [(1365,V 482),(1366,V 481),(1367,V 480),(1368,V 481),(1369,V 482),(1370,V 483)] [(1349,1353),(1345,1349),(1313,1300)] Qok:=by unfold HU Qll;kernel_rfl
theorem Qv9:HU 1 4 3 [2,1,1,0] Qom [0] [(1365,V 483),(1366,V 481),(1367,V 480),(1368,V 480),(1369,V 482),(1370,V 483)] [(1349,1350),(1345,1346),(1313,1314)] Qok:=by unfold HU Qll;kernel_rfl
theorem Qv8:HU 1 4 3 [2,1,2,0] Qom [0] [(1365,V 483),(1366,V 481),(1367,V 480),(1368,V 481),(1369,V 482),(1370,V 483)] [(1349,1351),(1345,1347),(1313,1315)] Qok:=by unfold HU Qll;kernel_rfl
theorem Qv7:HU 1 4 3 [2,2,0,1] Qom [0] [(1365,V 482),(1366,V 483),(1367,V 480),(1368,V 481),(1369,V 482),(1370,V 483)] [] Qok:=by unfold HU Qll;kernel_rfl
theorem Qv6:HU 1 4 3 [2,2,1,0] Qom [0] [(1365,V 483),(1366,V 482),(1367,V 480),(1368,V 481),(1369,V 482),(1370,V 483)] [] Qok:=by unfold HU Qll;kernel_rfl
theorem Zgd:HE Qr6 [1,0] [(1618,V 1304),(1619,V 1305),(1620,V 1306),(1621,V 1307),(1622,V 1308),(1623,V 1309)] [] sE3:=by unfold HE Qll;kernel_rfl
theorem Zg7:HE Qok [1,0] [(1618,V 1365),(1619,V 1366),(1620,V 1367),(1621,V 1368),(1622,V 1369),(1623,V 1370)] [(1292,1349),(1288,1345),(1262,1313)] sE3:=by unfold HE Qll;kernel_rfl
theorem Qxy:HU 1 3 3 [0,1,2] Qrz [0] [(1462,V 480),(1463,V 481),(1464,V 482),(1465,V 480),(1466,V 481),(1467,V 482)] [] Qr5:=by unfold HU Qll;kernel_rfl
theorem Qxx:HU 1 3 3 [0,2,1] Qrz [0] [(1462,V 480),(1463,V 482),(1464,V 481),(1465,V 480),(1466,V 481),(1467,V 482)] [] Qr5:=by unfold HU Qll;kernel_rfl
theorem Qxw:HU 1 3 3 [1,0,2] Qrz [0] [(1462,V 481),(1463,V 480),(1464,V 482),(1465,V 480),(1466,V 481),(1467,V 482)] [] Qr5:=by unfold HU Qll;kernel_rfl
theorem Qxv:HU 1 3 3 [1,2,0] Qrz [0] [(1462,V 482),(1463,V 480),(1464,V 481),(1465,V 480),(1466,V 481),(1467,V 482)] [] Qr5:=by unfold HU Qll;kernel_rfl
theorem Qxu:HU 1 3 3 [2,0,1] Qrz [0] [(1462,V 481),(1463,V 482),(1464,V 480),(1465,V 480),(1466,V 481),(1467,V 482)] [] Qr5:=by unfold HU Qll;kernel_rfl
theorem Qxt:HU 1 3 3 [2,1,0] Qrz [0] [(1462,V 482),(1463,V 481),(1464,V 480),(1465,V 480),(1466,V 481),(1467,V 482)] [] Qr5:=by unfold HU Qll;kernel_rfl
theorem Qv5:HU 1 4 3 [0,0,1,2] Qol [0] [(1523,V 480),(1524,V 482),(1525,V 483),(1526,V 481),(1527,V 482),(1528,V 483)] [] Qoj:=by unfold HU Qll;kernel_rfl
theorem Qv4:HU 1 4 3 [0,0,2,1] Qol [0] [(1523,V 480),(1524,V 483),(1525,V 482),(1526,V 481),(1527,V 482),(1528,V 483)] [] Qoj:=by unfold HU Qll;kernel_rfl
theorem Qv3:HU 1 4 3 [0,1,0,2] Qol [0] [(1523,V 480),(1524,V 481),(1525,V 483),(1526,V 481),(1527,V 482),(1528,V 483)] [(1507,1509),(1503,1505),(1471,1473)] Qoj:=by unfold HU Qll;kernel_rfl
theorem Qv2:HU 1 4 3 [0,1,1,2] Qol [0] [(1523,V 480),(1524,V 481),(1525,V 483),(1526,V 480),(1527,V 482),(1528,V 483)] [(1507,1508),(1503,1504),(1471,1472)] Qoj:=by unfold HU Qll;kernel_rfl
theorem Qv1:HU 1 4 3 [0,1,2,0] Qol [0] [(1523,V 480),(1524,V 481),(1525,V 482),(1526,V 481),(1527,V 482),(1528,V 483)] [(1507,1511),(1503,1507),(1471,1458)] Qoj:=by unfold HU Qll;kernel_rfl
theorem Qv0:HU 1 4 3 [0,1,2,1] Qol [0] [(1523,V 480),(1524,V 481),(1525,V 482),(1526,V 480),(1527,V 482),(1528,V 483)] [(1507,1510),(1503,1506),(1471,1458)] Qoj:=by unfold HU Qll;kernel_rfl
theorem Quz:HU 1 4 3 [0,1,2,2] Qol [0] [(1523,V 480),(1524,V 481),(1525,V 482),(1526,V 480),(1527,V 481),(1528,V 483)] [(1507,1509),(1503,1505),(1471,1458)] Qoj:=by unfold HU Qll;kernel_rfl
theorem Quy:HU 1 4 3 [0,2,0,1] Qol [0] [(1523,V 480),(1524,V 483),(1525,V 481),(1526,V 481),(1527,V 482),(1528,V 483)] [(1507,1509),(1503,1505),(1471,1473)] Qoj:=by unfold HU Qll;kernel_rfl
theorem Qux:HU 1 4 3 [0,2,1,0] Qol [0] [(1523,V 480),(1524,V 482),(1525,V 481),(1526,V 481),(1527,V 482),(1528,V 483)] [(1507,1511),(1503,1507),(1471,1458)] Qoj:=by unfold HU Qll;kernel_rfl
theorem Quw:HU 1 4 3 [0,2,1,1] Qol [0] [(1523,V 480),(1524,V 482),(1525,V 481),(1526,V 480),(1527,V 481),(1528,V 483)] [(1507,1509),(1503,1505),(1471,1458)] Qoj:=by unfold HU Qll;kernel_rfl
theorem Quv:HU 1 4 3 [0,2,1,2] Qol [0] [(1523,V 480),(1524,V 482),(1525,V 481),(1526,V 480),(1527,V 482),(1528,V 483)] [(1507,1510),(1503,1506),(1471,1458)] Qoj:=by unfold HU Qll;kernel_rfl
theorem Quu:HU 1 4 3 [0,2,2,1] Qol [0] [(1523,V 480),(1524,V 483),(1525,V 481),(1526,V 480),(1527,V 482),(1528,V 483)] [(1507,1508),(1503,1504),(1471,1472)] Qoj:=by unfold HU Qll;kernel_rfl
end Go.Proofs.YtmjjaldodkokbaaGreatDoor
