/-
 A name is looked up: hops, part 14. Conditions: none.
-/
import Derived.Test.YtmjjaldodkokbaaGreatDoorLUs
namespace Go.Proofs.YtmjjaldodkokbaaGreatDoor
open Go Go.Ax Go.RowKit Go.Proofs
theorem Qut:HU 1 4 3 [1,0,0,2] Qol [0] [(1523,V 481),(1524,V 480),(1525,V 483),(1526,V 480),(1527,V 482),(1528,V 483)] [(1507,1508),(1503,1504),(1471,1472)] Qoj:=by unfold HU Qll;kernel_rfl
theorem Qus:HU 1 4 3 [1,0,1,2] Qol [0] [(1523,V 481),(1524,V 480),(1525,V 483),(1526,V 481),(1527,V 482),(1528,V 483)] [(1507,1509),(1503,1505),(1471,1473)] Qoj:=by unfold HU Qll;kernel_rfl
theorem Qur:HU 1 4 3 [1,0,2,0] Qol [0] [(1523,V 481),(1524,V 480),(1525,V 482),(1526,V 480),(1527,V 482),(1528,V 483)] [(1507,1510),(1503,1506),(1471,1458)] Qoj:=by unfold HU Qll;kernel_rfl
theorem Quq:HU 1 4 3 [1,0,2,1] Qol [0] [(1523,V 481),(1524,V 480),(1525,V 482),(1526,V 481),(1527,V 482),(1528,V 483)] [(1507,1511),(1503,1507),(1471,1458)] Qoj:=by unfold HU Qll;kernel_rfl
theorem Qup:HU 1 4 3 [1,0,2,2] Qol [0] [(1523,V 481),(1524,V 480),(1525,V 482),(1526,V 480),(1527,V 481),(1528,V 483)] [(1507,1509),(1503,1505),(1471,1458)] Qoj:=by unfold HU Qll;kernel_rfl
theorem Quo:HU 1 4 3 [1,1,0,2] Qol [0] [(1523,V 482),(1524,V 480),(1525,V 483),(1526,V 481),(1527,V 482),(1528,V 483)] [] Qoj:=by unfold HU Qll;kernel_rfl
theorem Qun:HU 1 4 3 [1,1,2,0] Qol [0] [(1523,V 483),(1524,V 480),(1525,V 482),(1526,V 481),(1527,V 482),(1528,V 483)] [] Qoj:=by unfold HU Qll;kernel_rfl
theorem Qum:HU 1 4 3 [1,2,0,0] Qol [0] [(1523,V 482),(1524,V 480),(1525,V 481),(1526,V 480),(1527,V 481),(1528,V 483)] [(1507,1509),(1503,1505),(1471,1458)] Qoj:=by unfold HU Qll;kernel_rfl
theorem Qul:HU 1 4 3 [1,2,0,1] Qol [0] [(1523,V 482),(1524,V 480),(1525,V 481),(1526,V 481),(1527,V 482),(1528,V 483)] [(1507,1511),(1503,1507),(1471,1458)] Qoj:=by unfold HU Qll;kernel_rfl
theorem Quk:HU 1 4 3 [1,2,0,2] Qol [0] [(1523,V 482),(1524,V 480),(1525,V 481),(1526,V 480),(1527,V 482),(1528,V 483)] [(1507,1510),(1503,1506),(1471,1458)] Qoj:=by unfold HU Qll;kernel_rfl
theorem Quj:HU 1 4 3 [1,2,1,0] Qol [0] [(1523,V 483),(1524,V 480),(1525,V 481),(1526,V 481),(1527,V 482),(1528,V 483)] [(1507,1509),(1503,1505),(1471,1473)] Qoj:=by unfold HU Qll;kernel_rfl
theorem Qui:HU 1 4 3 [1,2,2,0] Qol [0] [(1523,V 483),(1524,V 480),(1525,V 481),(1526,V 480),(1527,V 482),(1528,V 483)] [(1507,1508),(1503,1504),(1471,1472)] Qoj:=by unfold HU Qll;kernel_rfl
theorem Quh:HU 1 4 3 [2,0,0,1] Qol [0] [(1523,V 481),(1524,V 483),(1525,V 480),(1526,V 480),(1527,V 482),(1528,V 483)] [(1507,1508),(1503,1504),(1471,1472)] Qoj:=by unfold HU Qll;kernel_rfl
theorem Qug:HU 1 4 3 [2,0,1,0] Qol [0] [(1523,V 481),(1524,V 482),(1525,V 480),(1526,V 480),(1527,V 482),(1528,V 483)] [(1507,1510),(1503,1506),(1471,1458)] Qoj:=by unfold HU Qll;kernel_rfl
theorem Quf:HU 1 4 3 [2,0,1,1] Qol [0] [(1523,V 481),(1524,V 482),(1525,V 480),(1526,V 480),(1527,V 481),(1528,V 483)] [(1507,1509),(1503,1505),(1471,1458)] Qoj:=by unfold HU Qll;kernel_rfl
theorem Que:HU 1 4 3 [2,0,1,2] Qol [0] [(1523,V 481),(1524,V 482),(1525,V 480),(1526,V 481),(1527,V 482),(1528,V 483)] [(1507,1511),(1503,1507),(1471,1458)] Qoj:=by unfold HU Qll;kernel_rfl
theorem Qud:HU 1 4 3 [2,0,2,1] Qol [0] [(1523,V 481),(1524,V 483),(1525,V 480),(1526,V 481),(1527,V 482),(1528,V 483)] [(1507,1509),(1503,1505),(1471,1473)] Qoj:=by unfold HU Qll;kernel_rfl
theorem Quc:HU 1 4 3 [2,1,0,0] Qol [0] [(1523,V 482),(1524,V 481),(1525,V 480),(1526,V 480),(1527,V 481),(1528,V 483)] [(1507,1509),(1503,1505),(1471,1458)] Qoj:=by unfold HU Qll;kernel_rfl
theorem Qub:HU 1 4 3 [2,1,0,1] Qol [0] [(1523,V 482),(1524,V 481),(1525,V 480),(1526,V 480),(1527,V 482),(1528,V 483)] [(1507,1510),(1503,1506),(1471,1458)] Qoj:=by unfold HU Qll;kernel_rfl
theorem Qu9:HU 1 4 3 [2,1,0,2] Qol [0] [(1523,V 482),(1524,V 481),(1525,V 480),(1526,V 481),(1527,V 482),(1528,V 483)] [(1507,1511),(1503,1507),(1471,1458)] Qoj:=by unfold HU Qll;kernel_rfl
theorem Qu8:HU 1 4 3 [2,1,1,0] Qol [0] [(1523,V 483),(1524,V 481),(1525,V 480),(1526,V 480),(1527,V 482),(1528,V 483)] [(1507,1508),(1503,1504),(1471,1472)] Qoj:=by unfold HU Qll;kernel_rfl
theorem Qu7:HU 1 4 3 [2,1,2,0] Qol [0] [(1523,V 483),(1524,V 481),(1525,V 480),(1526,V 481),(1527,V 482),(1528,V 483)] [(1507,1509),(1503,1505),(1471,1473)] Qoj:=by unfold HU Qll;kernel_rfl
theorem Qu6:HU 1 4 3 [2,2,0,1] Qol [0] [(1523,V 482),(1524,V 483),(1525,V 480),(1526,V 481),(1527,V 482),(1528,V 483)] [] Qoj:=by unfold HU Qll;kernel_rfl
theorem Qu5:HU 1 4 3 [2,2,1,0] Qol [0] [(1523,V 483),(1524,V 482),(1525,V 480),(1526,V 481),(1527,V 482),(1528,V 483)] [] Qoj:=by unfold HU Qll;kernel_rfl
theorem Zgc:HE Qr5 [1,0] [(2041,V 1462),(2042,V 1463),(2043,V 1464),(2044,V 1465),(2045,V 1466),(2046,V 1467)] [] sF3:=by unfold HE Qll;kernel_rfl
theorem Zg6:HE Qoj [1,0] [(2041,V 1523),(2042,V 1524),(2043,V 1525),(2044,V 1526),(2045,V 1527),(2046,V 1528)] [(1450,1507),(1446,1503),(1420,1471)] sF3:=by unfold HE Qll;kernel_rfl
theorem Qu4:HU 1 4 4 [0,1,2,3] Qp3 [0] [(1364,V 480),(1365,V 481),(1366,V 482),(1367,V 483),(1368,V 480),(1369,V 481),(1370,V 482),(1371,V 483)] [] Qow:=by unfold HU Qll;kernel_rfl
theorem Qu3:HU 1 4 4 [0,1,3,2] Qp3 [0] [(1364,V 480),(1365,V 481),(1366,V 483),(1367,V 482),(1368,V 480),(1369,V 481),(1370,V 482),(1371,V 483)] [] Qow:=by unfold HU Qll;kernel_rfl
theorem Qu2:HU 1 4 4 [0,2,1,3] Qp3 [0] [(1364,V 480),(1365,V 482),(1366,V 481),(1367,V 483),(1368,V 480),(1369,V 481),(1370,V 482),(1371,V 483)] [] Qow:=by unfold HU Qll;kernel_rfl
theorem Qu1:HU 1 4 4 [0,2,3,1] Qp3 [0] [(1364,V 480),(1365,V 483),(1366,V 481),(1367,V 482),(1368,V 480),(1369,V 481),(1370,V 482),(1371,V 483)] [] Qow:=by unfold HU Qll;kernel_rfl
theorem Qu0:HU 1 4 4 [0,3,1,2] Qp3 [0] [(1364,V 480),(1365,V 482),(1366,V 483),(1367,V 481),(1368,V 480),(1369,V 481),(1370,V 482),(1371,V 483)] [] Qow:=by unfold HU Qll;kernel_rfl
theorem Qtz:HU 1 4 4 [0,3,2,1] Qp3 [0] [(1364,V 480),(1365,V 483),(1366,V 482),(1367,V 481),(1368,V 480),(1369,V 481),(1370,V 482),(1371,V 483)] [] Qow:=by unfold HU Qll;kernel_rfl
theorem Qty:HU 1 4 4 [1,0,2,3] Qp3 [0] [(1364,V 481),(1365,V 480),(1366,V 482),(1367,V 483),(1368,V 480),(1369,V 481),(1370,V 482),(1371,V 483)] [] Qow:=by unfold HU Qll;kernel_rfl
theorem Qtx:HU 1 4 4 [1,0,3,2] Qp3 [0] [(1364,V 481),(1365,V 480),(1366,V 483),(1367,V 482),(1368,V 480),(1369,V 481),(1370,V 482),(1371,V 483)] [] Qow:=by unfold HU Qll;kernel_rfl
theorem Qtw:HU 1 4 4 [1,2,0,3] Qp3 [0] [(1364,V 482),(1365,V 480),(1366,V 481),(1367,V 483),(1368,V 480),(1369,V 481),(1370,V 482),(1371,V 483)] [] Qow:=by unfold HU Qll;kernel_rfl
theorem Qtv:HU 1 4 4 [1,2,3,0] Qp3 [0] [(1364,V 483),(1365,V 480),(1366,V 481),(1367,V 482),(1368,V 480),(1369,V 481),(1370,V 482),(1371,V 483)] [] Qow:=by unfold HU Qll;kernel_rfl
theorem Qtu:HU 1 4 4 [1,3,0,2] Qp3 [0] [(1364,V 482),(1365,V 480),(1366,V 483),(1367,V 481),(1368,V 480),(1369,V 481),(1370,V 482),(1371,V 483)] [] Qow:=by unfold HU Qll;kernel_rfl
theorem Qtt:HU 1 4 4 [1,3,2,0] Qp3 [0] [(1364,V 483),(1365,V 480),(1366,V 482),(1367,V 481),(1368,V 480),(1369,V 481),(1370,V 482),(1371,V 483)] [] Qow:=by unfold HU Qll;kernel_rfl
theorem Qts:HU 1 4 4 [2,0,1,3] Qp3 [0] [(1364,V 481),(1365,V 482),(1366,V 480),(1367,V 483),(1368,V 480),(1369,V 481),(1370,V 482),(1371,V 483)] [] Qow:=by unfold HU Qll;kernel_rfl
theorem Qtr:HU 1 4 4 [2,0,3,1] Qp3 [0] [(1364,V 481),(1365,V 483),(1366,V 480),(1367,V 482),(1368,V 480),(1369,V 481),(1370,V 482),(1371,V 483)] [] Qow:=by unfold HU Qll;kernel_rfl
theorem Qtq:HU 1 4 4 [2,1,0,3] Qp3 [0] [(1364,V 482),(1365,V 481),(1366,V 480),(1367,V 483),(1368,V 480),(1369,V 481),(1370,V 482),(1371,V 483)] [] Qow:=by unfold HU Qll;kernel_rfl
theorem Qtp:HU 1 4 4 [2,1,3,0] Qp3 [0] [(1364,V 483),(1365,V 481),(1366,V 480),(1367,V 482),(1368,V 480),(1369,V 481),(1370,V 482),(1371,V 483)] [] Qow:=by unfold HU Qll;kernel_rfl
theorem Qto:HU 1 4 4 [2,3,0,1] Qp3 [0] [(1364,V 482),(1365,V 483),(1366,V 480),(1367,V 481),(1368,V 480),(1369,V 481),(1370,V 482),(1371,V 483)] [] Qow:=by unfold HU Qll;kernel_rfl
theorem Qtn:HU 1 4 4 [2,3,1,0] Qp3 [0] [(1364,V 483),(1365,V 482),(1366,V 480),(1367,V 481),(1368,V 480),(1369,V 481),(1370,V 482),(1371,V 483)] [] Qow:=by unfold HU Qll;kernel_rfl
theorem Qtm:HU 1 4 4 [3,0,1,2] Qp3 [0] [(1364,V 481),(1365,V 482),(1366,V 483),(1367,V 480),(1368,V 480),(1369,V 481),(1370,V 482),(1371,V 483)] [] Qow:=by unfold HU Qll;kernel_rfl
end Go.Proofs.YtmjjaldodkokbaaGreatDoor
