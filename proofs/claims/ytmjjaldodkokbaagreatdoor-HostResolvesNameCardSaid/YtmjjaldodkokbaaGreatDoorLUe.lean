/-
 A name is looked up: hops, part 15. Conditions: none.
-/
import Derived.Test.YtmjjaldodkokbaaGreatDoorLUs
namespace Go.Proofs.YtmjjaldodkokbaaGreatDoor
open Go Go.Ax Go.RowKit Go.Proofs
theorem Qtl:HU 1 4 4 [3,0,2,1] Qp3 [0] [(1364,V 481),(1365,V 483),(1366,V 482),(1367,V 480),(1368,V 480),(1369,V 481),(1370,V 482),(1371,V 483)] [] Qow:=by unfold HU Qll;kernel_rfl
theorem Qtk:HU 1 4 4 [3,1,0,2] Qp3 [0] [(1364,V 482),(1365,V 481),(1366,V 483),(1367,V 480),(1368,V 480),(1369,V 481),(1370,V 482),(1371,V 483)] [] Qow:=by unfold HU Qll;kernel_rfl
theorem Qtj:HU 1 4 4 [3,1,2,0] Qp3 [0] [(1364,V 483),(1365,V 481),(1366,V 482),(1367,V 480),(1368,V 480),(1369,V 481),(1370,V 482),(1371,V 483)] [] Qow:=by unfold HU Qll;kernel_rfl
theorem Qti:HU 1 4 4 [3,2,0,1] Qp3 [0] [(1364,V 482),(1365,V 483),(1366,V 481),(1367,V 480),(1368,V 480),(1369,V 481),(1370,V 482),(1371,V 483)] [] Qow:=by unfold HU Qll;kernel_rfl
theorem Qth:HU 1 4 4 [3,2,1,0] Qp3 [0] [(1364,V 483),(1365,V 482),(1366,V 481),(1367,V 480),(1368,V 480),(1369,V 481),(1370,V 482),(1371,V 483)] [] Qow:=by unfold HU Qll;kernel_rfl
theorem Zg5:HE Qow [1,0] [] [] sE4:=by unfold HE Qll;kernel_rfl
theorem Qtg:HU 1 4 4 [0,1,2,3] Qp2 [0] [(1522,V 480),(1523,V 481),(1524,V 482),(1525,V 483),(1526,V 480),(1527,V 481),(1528,V 482),(1529,V 483)] [] Qoy:=by unfold HU Qll;kernel_rfl
theorem Qtf:HU 1 4 4 [0,1,3,2] Qp2 [0] [(1522,V 480),(1523,V 481),(1524,V 483),(1525,V 482),(1526,V 480),(1527,V 481),(1528,V 482),(1529,V 483)] [] Qoy:=by unfold HU Qll;kernel_rfl
theorem Qte:HU 1 4 4 [0,2,1,3] Qp2 [0] [(1522,V 480),(1523,V 482),(1524,V 481),(1525,V 483),(1526,V 480),(1527,V 481),(1528,V 482),(1529,V 483)] [] Qoy:=by unfold HU Qll;kernel_rfl
theorem Qtd:HU 1 4 4 [0,2,3,1] Qp2 [0] [(1522,V 480),(1523,V 483),(1524,V 481),(1525,V 482),(1526,V 480),(1527,V 481),(1528,V 482),(1529,V 483)] [] Qoy:=by unfold HU Qll;kernel_rfl
theorem Qtc:HU 1 4 4 [0,3,1,2] Qp2 [0] [(1522,V 480),(1523,V 482),(1524,V 483),(1525,V 481),(1526,V 480),(1527,V 481),(1528,V 482),(1529,V 483)] [] Qoy:=by unfold HU Qll;kernel_rfl
theorem Qtb:HU 1 4 4 [0,3,2,1] Qp2 [0] [(1522,V 480),(1523,V 483),(1524,V 482),(1525,V 481),(1526,V 480),(1527,V 481),(1528,V 482),(1529,V 483)] [] Qoy:=by unfold HU Qll;kernel_rfl
theorem Qta:HU 1 4 4 [1,0,2,3] Qp2 [0] [(1522,V 481),(1523,V 480),(1524,V 482),(1525,V 483),(1526,V 480),(1527,V 481),(1528,V 482),(1529,V 483)] [] Qoy:=by unfold HU Qll;kernel_rfl
theorem Qt9:HU 1 4 4 [1,0,3,2] Qp2 [0] [(1522,V 481),(1523,V 480),(1524,V 483),(1525,V 482),(1526,V 480),(1527,V 481),(1528,V 482),(1529,V 483)] [] Qoy:=by unfold HU Qll;kernel_rfl
theorem Qt8:HU 1 4 4 [1,2,0,3] Qp2 [0] [(1522,V 482),(1523,V 480),(1524,V 481),(1525,V 483),(1526,V 480),(1527,V 481),(1528,V 482),(1529,V 483)] [] Qoy:=by unfold HU Qll;kernel_rfl
theorem Qt7:HU 1 4 4 [1,2,3,0] Qp2 [0] [(1522,V 483),(1523,V 480),(1524,V 481),(1525,V 482),(1526,V 480),(1527,V 481),(1528,V 482),(1529,V 483)] [] Qoy:=by unfold HU Qll;kernel_rfl
theorem Qt6:HU 1 4 4 [1,3,0,2] Qp2 [0] [(1522,V 482),(1523,V 480),(1524,V 483),(1525,V 481),(1526,V 480),(1527,V 481),(1528,V 482),(1529,V 483)] [] Qoy:=by unfold HU Qll;kernel_rfl
theorem Qt5:HU 1 4 4 [1,3,2,0] Qp2 [0] [(1522,V 483),(1523,V 480),(1524,V 482),(1525,V 481),(1526,V 480),(1527,V 481),(1528,V 482),(1529,V 483)] [] Qoy:=by unfold HU Qll;kernel_rfl
theorem Qt4:HU 1 4 4 [2,0,1,3] Qp2 [0] [(1522,V 481),(1523,V 482),(1524,V 480),(1525,V 483),(1526,V 480),(1527,V 481),(1528,V 482),(1529,V 483)] [] Qoy:=by unfold HU Qll;kernel_rfl
theorem Qt3:HU 1 4 4 [2,0,3,1] Qp2 [0] [(1522,V 481),(1523,V 483),(1524,V 480),(1525,V 482),(1526,V 480),(1527,V 481),(1528,V 482),(1529,V 483)] [] Qoy:=by unfold HU Qll;kernel_rfl
theorem Qt2:HU 1 4 4 [2,1,0,3] Qp2 [0] [(1522,V 482),(1523,V 481),(1524,V 480),(1525,V 483),(1526,V 480),(1527,V 481),(1528,V 482),(1529,V 483)] [] Qoy:=by unfold HU Qll;kernel_rfl
theorem Qt1:HU 1 4 4 [2,1,3,0] Qp2 [0] [(1522,V 483),(1523,V 481),(1524,V 480),(1525,V 482),(1526,V 480),(1527,V 481),(1528,V 482),(1529,V 483)] [] Qoy:=by unfold HU Qll;kernel_rfl
theorem Qt0:HU 1 4 4 [2,3,0,1] Qp2 [0] [(1522,V 482),(1523,V 483),(1524,V 480),(1525,V 481),(1526,V 480),(1527,V 481),(1528,V 482),(1529,V 483)] [] Qoy:=by unfold HU Qll;kernel_rfl
theorem Qsz:HU 1 4 4 [2,3,1,0] Qp2 [0] [(1522,V 483),(1523,V 482),(1524,V 480),(1525,V 481),(1526,V 480),(1527,V 481),(1528,V 482),(1529,V 483)] [] Qoy:=by unfold HU Qll;kernel_rfl
theorem Qsy:HU 1 4 4 [3,0,1,2] Qp2 [0] [(1522,V 481),(1523,V 482),(1524,V 483),(1525,V 480),(1526,V 480),(1527,V 481),(1528,V 482),(1529,V 483)] [] Qoy:=by unfold HU Qll;kernel_rfl
theorem Qsx:HU 1 4 4 [3,0,2,1] Qp2 [0] [(1522,V 481),(1523,V 483),(1524,V 482),(1525,V 480),(1526,V 480),(1527,V 481),(1528,V 482),(1529,V 483)] [] Qoy:=by unfold HU Qll;kernel_rfl
theorem Qsw:HU 1 4 4 [3,1,0,2] Qp2 [0] [(1522,V 482),(1523,V 481),(1524,V 483),(1525,V 480),(1526,V 480),(1527,V 481),(1528,V 482),(1529,V 483)] [] Qoy:=by unfold HU Qll;kernel_rfl
theorem Qsv:HU 1 4 4 [3,1,2,0] Qp2 [0] [(1522,V 483),(1523,V 481),(1524,V 482),(1525,V 480),(1526,V 480),(1527,V 481),(1528,V 482),(1529,V 483)] [] Qoy:=by unfold HU Qll;kernel_rfl
theorem Qsu:HU 1 4 4 [3,2,0,1] Qp2 [0] [(1522,V 482),(1523,V 483),(1524,V 481),(1525,V 480),(1526,V 480),(1527,V 481),(1528,V 482),(1529,V 483)] [] Qoy:=by unfold HU Qll;kernel_rfl
theorem Qst:HU 1 4 4 [3,2,1,0] Qp2 [0] [(1522,V 483),(1523,V 482),(1524,V 481),(1525,V 480),(1526,V 480),(1527,V 481),(1528,V 482),(1529,V 483)] [] Qoy:=by unfold HU Qll;kernel_rfl
theorem Zg4:HE Qoy [1,0] [] [] sF4:=by unfold HE Qll;kernel_rfl
theorem Zao:EZ (Qsa.am 8000):=by unfold EZ;kernel_rfl
theorem zZ0:EZ (sZ0.am 8000):=by unfold EZ;kernel_rfl
theorem zE1:EZ (sE1.am 8000):=by unfold EZ;kernel_rfl
theorem zZ1:EZ (sZ1.am 8000):=by unfold EZ;kernel_rfl
theorem zE2:EZ (sE2.am 8000):=by unfold EZ;kernel_rfl
theorem zZ2:EZ (sZ2.am 8000):=by unfold EZ;kernel_rfl
theorem zE3:EZ (sE3.am 8000):=by unfold EZ;kernel_rfl
theorem zZ3:EZ (sZ3.am 8000):=by unfold EZ;kernel_rfl
theorem zE4:EZ (sE4.am 8000):=by unfold EZ;kernel_rfl
theorem zZ4:EZ (sZ4.am 8000):=by unfold EZ;kernel_rfl
end Go.Proofs.YtmjjaldodkokbaaGreatDoor
