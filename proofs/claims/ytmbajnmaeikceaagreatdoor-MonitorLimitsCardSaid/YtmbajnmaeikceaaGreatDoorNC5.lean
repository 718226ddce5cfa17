/-
 No function of the program starts a goroutine. Conditions: none.
-/
import Derived.Test.YtmbajnmaeikceaaGreatDoorNC0
import Derived.Test.YtmbajnmaeikceaaGreatDoorNC2
import Derived.Test.YtmbajnmaeikceaaGreatDoorNC4a
import Derived.Test.YtmbajnmaeikceaaGreatDoorNC4b
import Derived.Test.YtmbajnmaeikceaaGreatDoorNC4c
import Derived.Test.YtmbajnmaeikceaaGreatDoorRows
namespace Go.Proofs.YtmbajnmaeikceaaGreatDoor
open Go Go.Proofs
set_option maxRecDepth 100000
theorem gg0:((List.range' 0 100).all λg=>!(Tryz.prog.funcs[g]?).any Func.goes)=true:=by kernel_rfl
theorem gg1:((List.range' 100 100).all λg=>!(Tryz.prog.funcs[g]?).any Func.goes)=true:=by kernel_rfl
theorem gg2:((List.range' 200 100).all λg=>!(Tryz.prog.funcs[g]?).any Func.goes)=true:=by kernel_rfl
theorem gg3:((List.range' 300 100).all λg=>!(Tryz.prog.funcs[g]?).any Func.goes)=true:=by kernel_rfl
theorem gg4:((List.range' 400 100).all λg=>!(Tryz.prog.funcs[g]?).any Func.goes)=true:=by kernel_rfl
theorem gg5:((List.range' 500 100).all λg=>!(Tryz.prog.funcs[g]?).any Func.goes)=true:=by kernel_rfl
theorem gg6:((List.range' 600 100).all λg=>!(Tryz.prog.funcs[g]?).any Func.goes)=true:=by kernel_rfl
theorem gg7:((List.range' 700 84).all λg=>!(Tryz.prog.funcs[g]?).any Func.goes)=true:=by kernel_rfl
theorem nfuncs:Tryz.prog.funcs.size=784:=by kernel_rfl
end Go.Proofs.YtmbajnmaeikceaaGreatDoor
namespace Go.Proofs.YtmbajnmaeikceaaGreatDoor
open Go Go.Proofs
set_option maxRecDepth 100000
theorem Qc9:Tryz.prog.inPlace 3=["internal/bytealg.IndexByteString", "internal/bytealg.IndexString", "internal/abi.NoEscape", "internal/bytealg.MakeNoZero", "internal/reflectlite.ValueOf", "(internal/reflectlite.Value).Type", "(internal/reflectlite.Value).IsNil", "internal/reflectlite.TypeOf", "(internal/reflectlite.Value).Elem", "(internal/reflectlite.Value).Set", "internal/bytealg.CountString"]:=by unfold Program.inPlace;rw [qg];unfold cl;simp only [List.filterMap_append,ip0,ip1,ip2,ip3,ip4,ip5,ip6,ip7,List.nil_append,List.append_nil,List.cons_append]
theorem Qlx:(Rows.monitorLimitsRow.inPlace==Tryz.prog.inPlace 3)=true:=by rw [Qc9];decide+kernel
theorem zn:Tryz.prog.unfollowed 3=true:=by unfold Program.unfollowed;rw [qg];kernel_rfl
theorem Qgj:(Rows.monitorLimitsRow.unfollowed==Tryz.prog.unfollowed 3)=true:=by rw [zn];rfl
theorem Qk0:(Rows.monitorLimitsRow.recurses==Tryz.prog.recurses 3)=true:=by unfold Program.recurses;rw [zn];rfl
theorem Qhg:Tryz.prog.varsNamed 3=["internal/bytealg.MaxLen", "errors.errorType", "stagepost/congestion.errSize", "stagepost/tcpstate.triples", "stagepost/link.errBroken", "stagepost/icmp.errShort", "stagepost/icmp.errKind", "stagepost/dnscache.errInvalid", "internal/strconv.uint64pow10", "math/bits.deBruijn32tab", "math/bits.deBruijn64tab", "unicode/utf8.first", "unicode/utf8.acceptRanges", "strconv.ErrSyntax", "strconv.ErrRange"]:=by unfold Program.varsNamed;rw [qg];unfold cl;simp only [List.flatMap_append,List.filterMap_append,vn0,er0,vn1,er1,vn2,er2,vn3,er3,vn4,er4,vn5,er5,vn6,er6,vn7,er7,List.nil_append,List.append_nil,List.cons_append];kernel_rfl
theorem named_ok:(Rows.monitorLimitsRow.named==Tryz.prog.varsNamed 3)=true:=by rw [Qhg];decide+kernel
theorem Qhc:Tryz.prog.funcs.any Func.goes=false:=by
 rw [Array.any_eq_false];intro i hi;have hn:=nfuncs;have key:∀k m,k<=i->i<k+m->((List.range' k m).all λg=>!(Tryz.prog.funcs[g]?).any Func.goes)=true->¬(Tryz.prog.funcs[i]).goes=true:=by intro k m h1 h2 h;have:=List.all_eq_true.1 h i (by rw [List.mem_range'_1];omega);simpa [Array.getElem?_eq_getElem hi] using this
 by_cases h0:i<100;exact key 0 100 (by omega) (by omega) gg0;by_cases h1:i<200;exact key 100 100 (by omega) (by omega) gg1;by_cases h2:i<300;exact key 200 100 (by omega) (by omega) gg2;by_cases h3:i<400;exact key 300 100 (by omega) (by omega) gg3;by_cases h4:i<500;exact key 400 100 (by omega) (by omega) gg4;by_cases h5:i<600;exact key 500 100 (by omega) (by omega) gg5;by_cases h6:i<700;exact key 600 100 (by omega) (by omega) gg6;by_cases h7:i<784;exact key 700 84 (by omega) (by omega) gg7;omega
theorem goes_eq:Tryz.prog.goes 3=false:=by unfold Program.goes;rw [qg,Qhc];unfold cl;simp only [List.any_append,gs0,gs1,gs2,gs3,gs4,gs5,gs6,gs7,Bool.and_false,Bool.or_false]
end Go.Proofs.YtmbajnmaeikceaaGreatDoor
