/-
 No function of the program starts a goroutine. Conditions: none.
-/
import Derived.Test.YtmfeholdlgfpbaaGreatDoorEC0
import Derived.Test.YtmfeholdlgfpbaaGreatDoorEC2
import Derived.Test.YtmfeholdlgfpbaaGreatDoorEC4a
import Derived.Test.YtmfeholdlgfpbaaGreatDoorEC4b
import Derived.Test.YtmfeholdlgfpbaaGreatDoorEC4c
import Derived.Test.YtmfeholdlgfpbaaGreatDoorRows
namespace Go.Proofs.YtmfeholdlgfpbaaGreatDoor
open Go Go.Proofs
set_option maxRecDepth 100000
theorem gg0:((List.range' 0 100).all λg=>!(Tryz.prog.funcs[g]?).any Func.goes)=true:=by kernel_rfl
theorem gg1:((List.range' 100 100).all λg=>!(Tryz.prog.funcs[g]?).any Func.goes)=true:=by kernel_rfl
theorem gg2:((List.range' 200 100).all λg=>!(Tryz.prog.funcs[g]?).any Func.goes)=true:=by kernel_rfl
theorem gg3:((List.range' 300 100).all λg=>!(Tryz.prog.funcs[g]?).any Func.goes)=true:=by kernel_rfl
theorem gg4:((List.range' 400 100).all λg=>!(Tryz.prog.funcs[g]?).any Func.goes)=true:=by kernel_rfl
theorem gg5:((List.range' 500 100).all λg=>!(Tryz.prog.funcs[g]?).any Func.goes)=true:=by kernel_rfl
theorem gg6:((List.range' 600 100).all λg=>!(Tryz.prog.funcs[g]?).any Func.goes)=true:=by kernel_rfl
theorem gg7:((List.range' 700 6).all λg=>!(Tryz.prog.funcs[g]?).any Func.goes)=true:=by kernel_rfl
theorem nfuncs:Tryz.prog.funcs.size=706:=by kernel_rfl
end Go.Proofs.YtmfeholdlgfpbaaGreatDoor
namespace Go.Proofs.YtmfeholdlgfpbaaGreatDoor
open Go Go.Proofs
set_option maxRecDepth 100000
theorem Qcr:Tryz.prog.inPlace 3=["internal/reflectlite.TypeOf", "internal/abi.NoEscape", "internal/bytealg.MakeNoZero", "internal/bytealg.IndexByteString", "internal/bytealg.IndexString", "internal/reflectlite.ValueOf", "(internal/reflectlite.Value).Type", "(internal/reflectlite.Value).IsNil", "(internal/reflectlite.Value).Elem", "(internal/reflectlite.Value).Set"]:=by unfold Program.inPlace;rw [qb];unfold cl;simp only [List.filterMap_append,ip0,ip1,ip2,ip3,ip4,ip5,ip6,List.nil_append,List.append_nil,List.cons_append]
theorem Qm1:(Rows.hostDefaultDenyRow.inPlace==Tryz.prog.inPlace 3)=true:=by rw [Qcr];decide+kernel
theorem zw:Tryz.prog.unfollowed 3=true:=by unfold Program.unfollowed;rw [qb];kernel_rfl
theorem Qgp:(Rows.hostDefaultDenyRow.unfollowed==Tryz.prog.unfollowed 3)=true:=by rw [zw];rfl
theorem Qk7:(Rows.hostDefaultDenyRow.recurses==Tryz.prog.recurses 3)=true:=by unfold Program.recurses;rw [zw];rfl
theorem Qhr:Tryz.prog.varsNamed 3=["stagepost/link.errBroken", "stagepost/icmp.errShort", "stagepost/icmp.errKind", "stagepost/congestion.errSize", "stagepost/tcpstate.triples", "internal/bytealg.MaxLen", "stagepost/dnscache.errInvalid", "errors.errorType"]:=by unfold Program.varsNamed;rw [qb];unfold cl;simp only [List.flatMap_append,List.filterMap_append,vn0,er0,vn1,er1,vn2,er2,vn3,er3,vn4,er4,vn5,er5,vn6,er6,List.nil_append,List.append_nil,List.cons_append];kernel_rfl
theorem named_ok:(Rows.hostDefaultDenyRow.named==Tryz.prog.varsNamed 3)=true:=by rw [Qhr];decide+kernel
theorem Qhn:Tryz.prog.funcs.any Func.goes=false:=by
 rw [Array.any_eq_false];intro i hi;have hn:=nfuncs;have key:∀k m,k<=i->i<k+m->((List.range' k m).all λg=>!(Tryz.prog.funcs[g]?).any Func.goes)=true->¬(Tryz.prog.funcs[i]).goes=true:=by intro k m h1 h2 h;have:=List.all_eq_true.1 h i (by rw [List.mem_range'_1];omega);simpa [Array.getElem?_eq_getElem hi] using this
 by_cases h0:i<100;exact key 0 100 (by omega) (by omega) gg0;by_cases h1:i<200;exact key 100 100 (by omega) (by omega) gg1;by_cases h2:i<300;exact key 200 100 (by omega) (by omega) gg2;by_cases h3:i<400;exact key 300 100 (by omega) (by omega) gg3;by_cases h4:i<500;exact key 400 100 (by omega) (by omega) gg4;by_cases h5:i<600;exact key 500 100 (by omega) (by omega) gg5;by_cases h6:i<700;exact key 600 100 (by omega) (by omega) gg6;by_cases h7:i<706;exact key 700 6 (by omega) (by omega) gg7;omega
theorem goes_eq:Tryz.prog.goes 3=false:=by unfold Program.goes;rw [qb,Qhn];unfold cl;simp only [List.any_append,gs0,gs1,gs2,gs3,gs4,gs5,gs6,Bool.and_false,Bool.or_false]
end Go.Proofs.YtmfeholdlgfpbaaGreatDoor
