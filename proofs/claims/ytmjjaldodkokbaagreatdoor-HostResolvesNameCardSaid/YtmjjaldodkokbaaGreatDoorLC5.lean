/-
 No function of the program starts a goroutine. Conditions: none.
-/
import Derived.Test.YtmjjaldodkokbaaGreatDoorLC0
import Derived.Test.YtmjjaldodkokbaaGreatDoorLC2
import Derived.Test.YtmjjaldodkokbaaGreatDoorLC4a
import Derived.Test.YtmjjaldodkokbaaGreatDoorLC4b
import Derived.Test.YtmjjaldodkokbaaGreatDoorLC4c
import Derived.Test.YtmjjaldodkokbaaGreatDoorRows
namespace Go.Proofs.YtmjjaldodkokbaaGreatDoor
open Go Go.Proofs
set_option maxRecDepth 100000
theorem gg0:((List.range' 0 100).all λg=>!(Tryz.prog.funcs[g]?).any Func.goes)=true:=by kernel_rfl
theorem gg1:((List.range' 100 100).all λg=>!(Tryz.prog.funcs[g]?).any Func.goes)=true:=by kernel_rfl
theorem gg2:((List.range' 200 100).all λg=>!(Tryz.prog.funcs[g]?).any Func.goes)=true:=by kernel_rfl
theorem gg3:((List.range' 300 100).all λg=>!(Tryz.prog.funcs[g]?).any Func.goes)=true:=by kernel_rfl
theorem gg4:((List.range' 400 100).all λg=>!(Tryz.prog.funcs[g]?).any Func.goes)=true:=by kernel_rfl
theorem gg5:((List.range' 500 100).all λg=>!(Tryz.prog.funcs[g]?).any Func.goes)=true:=by kernel_rfl
theorem gg6:((List.range' 600 100).all λg=>!(Tryz.prog.funcs[g]?).any Func.goes)=true:=by kernel_rfl
theorem gg7:((List.range' 700 6).all λg=>!(Tryz.prog.funcs[g]?).any Func.goes)=true:=by kernel_rfl
theorem nfuncs:Tryz.prog.funcs.size=706:=by kernel_rfl
end Go.Proofs.YtmjjaldodkokbaaGreatDoor
namespace Go.Proofs.YtmjjaldodkokbaaGreatDoor
open Go Go.Proofs
set_option maxRecDepth 100000
theorem Qc1:Tryz.prog.inPlace 3=["internal/reflectlite.TypeOf", "internal/abi.NoEscape", "internal/bytealg.MakeNoZero", "internal/bytealg.IndexByteString", "internal/bytealg.IndexString", "internal/reflectlite.ValueOf", "(internal/reflectlite.Value).Type", "(internal/reflectlite.Value).IsNil", "(internal/reflectlite.Value).Elem", "(internal/reflectlite.Value).Set"]:=by unfold Program.inPlace;rw [JN];unfold cl;simp only [List.filterMap_append,ip0,ip1,ip2,ip3,ip4,ip5,ip6,List.nil_append,List.append_nil,List.cons_append]
theorem Qlt:(Rows.hostResolvesNameRow.inPlace==Tryz.prog.inPlace 3)=true:=by rw [Qc1];decide+kernel
theorem qY:Tryz.prog.unfollowed 3=true:=by unfold Program.unfollowed;rw [JN];kernel_rfl
theorem Qg3:(Rows.hostResolvesNameRow.unfollowed==Tryz.prog.unfollowed 3)=true:=by rw [qY];rfl
theorem Qjt:(Rows.hostResolvesNameRow.recurses==Tryz.prog.recurses 3)=true:=by unfold Program.recurses;rw [qY];rfl
theorem Qh4:Tryz.prog.varsNamed 3=["stagepost/link.errBroken", "stagepost/icmp.errShort", "stagepost/icmp.errKind", "stagepost/congestion.errSize", "stagepost/tcpstate.triples", "internal/bytealg.MaxLen", "stagepost/dnscache.errInvalid", "errors.errorType"]:=by unfold Program.varsNamed;rw [JN];unfold cl;simp only [List.flatMap_append,List.filterMap_append,vn0,er0,vn1,er1,vn2,er2,vn3,er3,vn4,er4,vn5,er5,vn6,er6,List.nil_append,List.append_nil,List.cons_append];kernel_rfl
theorem named_ok:(Rows.hostResolvesNameRow.named==Tryz.prog.varsNamed 3)=true:=by rw [Qh4];decide+kernel
theorem Qh0:Tryz.prog.funcs.any Func.goes=false:=by
 rw [Array.any_eq_false];intro i hi;have hn:=nfuncs;have key:∀k m,k<=i->i<k+m->((List.range' k m).all λg=>!(Tryz.prog.funcs[g]?).any Func.goes)=true->¬(Tryz.prog.funcs[i]).goes=true:=by intro k m h1 h2 h;have:=List.all_eq_true.1 h i (by rw [List.mem_range'_1];omega);simpa [Array.getElem?_eq_getElem hi] using this
 by_cases h0:i<100;exact key 0 100 (by omega) (by omega) gg0;by_cases h1:i<200;exact key 100 100 (by omega) (by omega) gg1;by_cases h2:i<300;exact key 200 100 (by omega) (by omega) gg2;by_cases h3:i<400;exact key 300 100 (by omega) (by omega) gg3;by_cases h4:i<500;exact key 400 100 (by omega) (by omega) gg4;by_cases h5:i<600;exact key 500 100 (by omega) (by omega) gg5;by_cases h6:i<700;exact key 600 100 (by omega) (by omega) gg6;by_cases h7:i<706;exact key 700 6 (by omega) (by omega) gg7;omega
theorem goes_eq:Tryz.prog.goes 3=false:=by unfold Program.goes;rw [JN,Qh0];unfold cl;simp only [List.any_append,gs0,gs1,gs2,gs3,gs4,gs5,gs6,Bool.and_false,Bool.or_false]
end Go.Proofs.YtmjjaldodkokbaaGreatDoor
