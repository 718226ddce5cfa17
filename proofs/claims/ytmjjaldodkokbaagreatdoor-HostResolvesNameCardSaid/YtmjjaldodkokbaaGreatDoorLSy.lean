/-
 errors.As at a failure of the resolver and its own type: true, the target is set; at no error: false. Conditions: the variable of the type error is laid.
-/
import Derived.Test.YtmjjaldodkokbaaGreatDoorProg
import Derived.Test.YtmjjaldodkokbaaGreatDoorLAxG
import Derived.Test.YtmjjaldodkokbaaGreatDoorLAxD
import Derived.WalkKit
import Derived.LaidEql
import Derived.Stop.Asserts
import Derived.RowKitTokens
import Derived.Test.YtmjjaldodkokbaaGreatDoorLGa
import Derived.Test.YtmjjaldodkokbaaGreatDoorLWB
namespace Go.Proofs.YtmjjaldodkokbaaGreatDoor
open Go.RowKit Go.Extern.Stop Go.Stop Go.Extern Go.Proofs
theorem Qo3 (t:Value) (w:World):
 Calls Tryz.prog 201 #[.nilIface,t] w λe w' =>e= .returned (.bool false)/\w' =w:=by
 go_enter Tryz.func201,Tryz.ntmps201
 go_wp2
 go_ret
 exact ⟨rfl,rfl⟩
theorem Qo5 (t:Addr) (w:World):(ReflectliteValue.unpack (.iface 519 (.pointer (some t)))).run Tryz.prog w
 = .ok (.agg #[.pointer (some ⟨8,519,none⟩), .pointer (some ⟨w.heap.size,0,none⟩), .int .u64 150]) (w.alloc (.cells #[.pointer (some t)] 519)):=by kernel_rfl
theorem Qo7 (a:Addr) (w:World):(ReflectliteValue.methodAny (ReflectliteValue.valueError "reflectlite.Value.Type" 0) (λt _ _ _=>ReflectliteType.toType t) #[.agg #[.pointer (some ⟨8,519,none⟩), .pointer (some a), .int .u64 150]]).run Tryz.prog w
 = .ok (.iface 434 (.agg #[.pointer (some ⟨8,519,none⟩)])) w:=by kernel_rfl
theorem Ql6 (h:Value) (w:World):(Go.method 901 434 (.agg #[h]) "Kind").run Tryz.prog w= .ok (665,h) w:=by kernel_rfl
theorem Ql9 (w:World):((ReflectliteType.abiMethod λt=>(λa:Nat=>Value.int IntKind.u8 (a:Int)) <$> Rtype.kind t) #[.pointer (some ⟨8,519,none⟩)]).run Tryz.prog w= .ok (.int .u8 22) w:=by kernel_rfl
theorem Qla (w:World):((ReflectliteType.abiMethod λt=>(λa:Nat=>Value.int IntKind.u8 (a:Int)) <$> Rtype.kind t) #[.pointer (some ⟨8,414,none⟩)]).run Tryz.prog w= .ok (.int .u8 25) w:=by kernel_rfl
theorem Qj4 (z:Sem Value) (f:TypeId->Addr->Nat->Nat->Sem Value) (v:Value):
 ReflectliteValue.method z f #[v]=(do match <-ReflectliteValue.parts v with|none=>z|some (t,a,fl)=>f t a fl (fl%32)):=rfl
theorem Qau (a:Addr) (w:World):(ReflectliteValue.parts (.agg #[.pointer (some ⟨8,519,none⟩), .pointer (some a), .int .u64 150])).run Tryz.prog w= .ok (some (519,a,150)) w:=by kernel_rfl
theorem Qlb (a p:Addr) (W:World) (ha:W.cell? a=some (.pointer (some p))):
 (ReflectliteValue.method (ReflectliteValue.valueError "reflectlite.Value.IsNil" 0) ReflectliteValue.isNil #[.agg #[.pointer (some ⟨8,519,none⟩), .pointer (some a), .int .u64 150]]).run Tryz.prog W= .ok (.bool false) W:=by
 rw [Qj4];simp only [Sem.run_bind,Qau,Result.andThen];simp [ReflectliteValue.isNil,loadVar,isAgg,underlying,Tryz.underlying519,ha,Result.andThen]
theorem Ql8 (h:Value) (w:World):(Go.method 901 434 (.agg #[h]) "Elem").run Tryz.prog w= .ok (682, .agg #[h]) w:=by kernel_rfl
theorem Ql7 (h:Value) (w:World):(Go.method 901 434 (.agg #[h]) "Implements").run Tryz.prog w= .ok (683, .agg #[h]) w:=by kernel_rfl
theorem Qfp (h:Value) (w:World):(Go.method 901 434 (.agg #[h]) "AssignableTo").run Tryz.prog w= .ok (680, .agg #[h]) w:=by kernel_rfl
theorem Qle (w:World):(ReflectliteType.method ReflectliteType.elem #[.agg #[.pointer (some ⟨8,519,none⟩)]]).run Tryz.prog w= .ok (.iface 434 (.agg #[.pointer (some ⟨8,414,none⟩)])) w:=by kernel_rfl
theorem Qoa (w:World):(ReflectliteType.relation "Implements" ReflectliteType.implements_ #[.agg #[.pointer (some ⟨8,414,none⟩)], .iface 434 (.agg #[.pointer (some ⟨8,227,none⟩)])]).run Tryz.prog w= .ok (.bool true) w:=by kernel_rfl
theorem Qi6 (v:Value) (w:World):(ReflectliteType.typeOf #[.iface 414 v]).run Tryz.prog w= .ok (.iface 434 (.agg #[.pointer (some ⟨8,414,none⟩)])) w:=by kernel_rfl
theorem Qic (w:World):(ReflectliteType.relation "AssignableTo" ReflectliteType.assignableTo #[.agg #[.pointer (some ⟨8,414,none⟩)], .iface 434 (.agg #[.pointer (some ⟨8,414,none⟩)])]).run Tryz.prog w= .ok (.bool true) w:=by kernel_rfl
theorem Qo6 (n:Int) (w:World):(ReflectliteValue.unpack (.iface 414 (.agg #[.int .i64 n]))).run Tryz.prog w
 = .ok (.agg #[.pointer (some ⟨8,414,none⟩), .pointer (some ⟨w.heap.size,0,none⟩), .int .u64 153]) (w.alloc (.cells #[.int .i64 n] 414)):=by kernel_rfl
theorem Qia (w:World):(Rtype.elem? 519).run Tryz.prog w= .ok (some 414) w:=by kernel_rfl
theorem asMk (p:Addr) (w:World):(ReflectliteValue.mk 414 p ReflectliteValue.flagAddr).run Tryz.prog w= .ok (.agg #[.pointer (some ⟨8,414,none⟩), .pointer (some p), .int .u64 409]) w:=by kernel_rfl
theorem Qld (a p:Addr) (W:World) (ha:W.cell? a=some (.pointer (some p))):
 (ReflectliteValue.method (ReflectliteValue.valueError "reflectlite.Value.Elem" 0) ReflectliteValue.elem #[.agg #[.pointer (some ⟨8,519,none⟩), .pointer (some a), .int .u64 150]]).run Tryz.prog W
  = .ok (.agg #[.pointer (some ⟨8,414,none⟩), .pointer (some p), .int .u64 409]) W:=by
 rw [Qj4];simp only [Sem.run_bind,Qau,Result.andThen];simp [ReflectliteValue.elem,loadVar,isAgg,underlying,Tryz.underlying519,ha,Result.andThen,Qia,asMk]
theorem Qo2 (v x:Value):ReflectliteValue.set #[v,x]=(do
 let (some (dst,a,fl),some (src,b,_)):=(<-ReflectliteValue.parts v,<-ReflectliteValue.parts x)
  |unsupported (.noEntry "extern/(internal/reflectlite.Value).Set.zeroValue")
 if fl/ReflectliteValue.flagAddr%2==0 then unsupported (.noEntry "extern/(internal/reflectlite.Value).Set.unaddressable")
 let val <-loadVar src b
 if <-Rtype.directlyAssignable dst src then storeVar dst a val
 else if <-Rtype.implements dst src then
  if (<-Rtype.kind src)==20 then
   match val with
   | .nilIface=>unsupported (.noEntry "extern/reflectlite: a nil value of one interface type handed on as a value of another")
   |_=>storeVar dst a val
  else storeVar dst a (.iface src val)
 else panicString ("reflectlite.Set: value of type " ++(<-Rtype.spelt src)++ " is not assignable to type " ++(<-Rtype.spelt dst))
 pure (.tuple #[])):=rfl
theorem Qi9 (a:Addr) (w:World):(ReflectliteValue.parts (.agg #[.pointer (some ⟨8,414,none⟩), .pointer (some a), .int .u64 409])).run Tryz.prog w= .ok (some (414,a,409)) w:=by kernel_rfl
theorem Qi8 (a:Addr) (w:World):(ReflectliteValue.parts (.agg #[.pointer (some ⟨8,414,none⟩), .pointer (some a), .int .u64 153])).run Tryz.prog w= .ok (some (414,a,153)) w:=by kernel_rfl
theorem Qib (w:World):(Rtype.directlyAssignable 414 414).run Tryz.prog w= .ok true w:=by kernel_rfl
theorem Qlc (w:World):(isAgg 414).run Tryz.prog w= .ok true w:=by kernel_rfl
theorem Qo8 (w:World):(sizeOf 414).run Tryz.prog w= .ok 1 w:=by kernel_rfl
theorem Qo9 (b:Addr) (n:Int) (W:World) (hb:W.cell? b=some (.int .i64 n)):(loadVar 414 b).run Tryz.prog W= .ok (.agg #[.int .i64 n]) W:=by simp [loadVar,Result.andThen,loadCells,loadCellsFrom,hb,Addr.add]
theorem asSet (ta b:Addr) (n:Int) (old:Value) (W:World) (hb:W.cell? b=some (.int .i64 n)) (ht:W.cell? ta=some old) (hf:W.frozen? ta=false):
 (ReflectliteValue.set #[.agg #[.pointer (some ⟨8,414,none⟩), .pointer (some ta), .int .u64 409], .agg #[.pointer (some ⟨8,414,none⟩), .pointer (some b), .int .u64 153]]).run Tryz.prog W
  = .ok (.tuple #[]) (W.setCell ta (.int .i64 n)):=by
 rw [Qo2];simp only [Sem.run_bind,Qi9,Qi8,Result.andThen];simp [ReflectliteValue.flagAddr,Qo9 b n W hb,Result.andThen,Qib,storeVar,Value.cells,storeCells,Addr.add];rw [run_store Tryz.prog W ta _ _ (by rfl)];simp [ht,hf]
set_option maxRecDepth 100000 in
set_option maxHeartbeats 4000000 in
theorem Qo4 (n:Int) (t:Addr) (old:Value) (w:World) (hg:w.cell? ⟨3,0,none⟩=some (.iface 434 (.agg #[.pointer (some ⟨8,227,none⟩)]))) (ht0:w.cell? t=some old) (hf0:w.frozen? t=false):
 Calls Tryz.prog 201 #[.iface 414 (.agg #[.int .i64 n]), .iface 519 (.pointer (some t))] w λev w' =>ev= .returned (.bool true)/\w' =((((w.alloc (.cells #[.pointer (some t)] 519)).alloc (.cells #[.pointer (some ⟨8,519,none⟩), .pointer (some ⟨w.heap.size,0,none⟩), .int .u64 150] 498)).alloc (.cells #[.pointer (some ⟨8,519,none⟩), .pointer (some ⟨w.heap.size,0,none⟩), .int .u64 150] 498)).alloc (.cells #[.int .i64 n] 414)).setCell t (.int .i64 n):=by
 have h6:=@run_callFunc_extern Tryz.prog 293 _ (λargs=>ReflectliteValue.unpack (args.getD 0 (.tuple #[]))) Tryz.func293 (by kernel_rfl) (by kernel_rfl) (by kernel_rfl) (by kernel_rfl)
 have h7:=@run_callFunc_extern Tryz.prog 294 _ (ReflectliteValue.methodAny (ReflectliteValue.valueError "reflectlite.Value.Type" 0) (λt _ _ _=>ReflectliteType.toType t)) Tryz.func294 (by kernel_rfl) (by kernel_rfl) (by kernel_rfl) (by kernel_rfl);have h8:=@run_callFunc_extern Tryz.prog 295 _ (ReflectliteValue.method (ReflectliteValue.valueError "reflectlite.Value.IsNil" 0) ReflectliteValue.isNil) Tryz.func295 (by kernel_rfl) (by kernel_rfl) (by kernel_rfl) (by kernel_rfl);have h27:=@run_callFunc_extern Tryz.prog 665 _ (ReflectliteType.abiMethod λt=>do pure (.int .u8 (<-Rtype.kind t))) Tryz.func665 (by kernel_rfl) (by kernel_rfl) (by kernel_rfl) (by kernel_rfl);have h37:=@run_callFunc_extern Tryz.prog 682 _ (ReflectliteType.method ReflectliteType.elem) Tryz.func682 (by kernel_rfl) (by kernel_rfl) (by kernel_rfl) (by kernel_rfl);have h38:=@run_callFunc_extern Tryz.prog 683 _ (ReflectliteType.relation "Implements" ReflectliteType.implements_) Tryz.func683 (by kernel_rfl) (by kernel_rfl) (by kernel_rfl) (by kernel_rfl);have h10:=@run_callFunc_extern Tryz.prog 166 _ ReflectliteType.typeOf Tryz.func166 (by kernel_rfl) (by kernel_rfl) (by kernel_rfl) (by kernel_rfl);have h35:=@run_callFunc_extern Tryz.prog 680 _ (ReflectliteType.relation "AssignableTo" ReflectliteType.assignableTo) Tryz.func680 (by kernel_rfl) (by kernel_rfl) (by kernel_rfl) (by kernel_rfl);have h11:=@run_callFunc_extern Tryz.prog 410 _ (ReflectliteValue.method (ReflectliteValue.valueError "reflectlite.Value.Elem" 0) ReflectliteValue.elem) Tryz.func410 (by kernel_rfl) (by kernel_rfl) (by kernel_rfl) (by kernel_rfl);have h12:=@run_callFunc_extern Tryz.prog 411 _ ReflectliteValue.set Tryz.func411 (by kernel_rfl) (by kernel_rfl) (by kernel_rfl) (by kernel_rfl);have tO:=Qi6;have mA:=Qfp;have a25:=Qic;have v25:=Qo6;have f6:=Qo5;have f7:=Qo7;have mK:=Ql6;have mE:=Ql8;have mI:=Ql7;have k27:=Ql9;have k25:=Qla;have e27:=Qle;have i25:=Qoa;have n8:=Qlb ⟨w.heap.size,0,none⟩ t ((w.alloc (.cells #[.pointer (some t)] 519)).alloc (.cells #[.pointer (some ⟨8,519,none⟩), .pointer (some ⟨w.heap.size,0,none⟩), .int .u64 150] 498)) (by simp)
 have hlt:3<w.heap.size:=by rcases Nat.lt_or_ge 3 w.heap.size with h|h;exact h;simp [World.cell?,Array.getElem?_eq_none h] at hg
 have hg2:((w.alloc (.cells #[.pointer (some t)] 519)).alloc (.cells #[.pointer (some ⟨8,519,none⟩), .pointer (some ⟨w.heap.size,0,none⟩), .int .u64 150] 498)).cell? ⟨3,0,none⟩=some (.iface 434 (.agg #[.pointer (some ⟨8,227,none⟩)])):=by rw [World.cell?_alloc_lt _ _ ⟨3,0,none⟩ (by simp;omega),World.cell?_alloc_lt _ _ ⟨3,0,none⟩ hlt];exact hg
 have htl:t.block<w.heap.size:=by rcases Nat.lt_or_ge t.block w.heap.size with h|h;exact h;simp [World.cell?,Array.getElem?_eq_none h] at ht0
 have el:=Qld ⟨w.heap.size,0,none⟩ t (((w.alloc (.cells #[.pointer (some t)] 519)).alloc (.cells #[.pointer (some ⟨8,519,none⟩), .pointer (some ⟨w.heap.size,0,none⟩), .int .u64 150] 498)).alloc (.cells #[.pointer (some ⟨8,519,none⟩), .pointer (some ⟨w.heap.size,0,none⟩), .int .u64 150] 498)) (by rw [World.cell?_alloc_lt _ _ ⟨w.heap.size,0,none⟩ (by simp;omega)];simp)
 have st:=asSet t ⟨w.heap.size+1+1+1,0,none⟩ n old ((((w.alloc (.cells #[.pointer (some t)] 519)).alloc (.cells #[.pointer (some ⟨8,519,none⟩), .pointer (some ⟨w.heap.size,0,none⟩), .int .u64 150] 498)).alloc (.cells #[.pointer (some ⟨8,519,none⟩), .pointer (some ⟨w.heap.size,0,none⟩), .int .u64 150] 498)).alloc (.cells #[.int .i64 n] 414))
  (by rw [World.cell?_alloc_at _ _ _ _ (by simp)];rfl)
  (by rw [World.cell?_alloc_lt _ _ t (by simp;omega),World.cell?_alloc_lt _ _ t (by simp;omega),World.cell?_alloc_lt _ _ t (by simp;omega),World.cell?_alloc_lt _ _ t htl];exact ht0)
  (by rw [World.frozen?_alloc_old _ _ t (by simp;omega),World.frozen?_alloc_old _ _ t (by simp;omega),World.frozen?_alloc_old _ _ t (by simp;omega),World.frozen?_alloc_old _ _ t (Nat.ne_of_lt htl)];exact hf0)
 go_enter Tryz.func201,Tryz.ntmps201
 go_wp2
 refine wp_loop_rounds 1 ?_;rw [rounds_succ]
 go_wp2
 go_ret
 exact ⟨rfl,rfl⟩
end Go.Proofs.YtmjjaldodkokbaaGreatDoor
namespace Go.Proofs.YtmjjaldodkokbaaGreatDoor
open Go.RowKit Go.Proofs
noncomputable def Ql5:Ax.Sum:=λc H next xs=>
 match xs with
 |[.nilIface,_]=> .ok ⟨.bool false,H,next,c⟩
 |[.iface t (.agg [.int .i64 e]), .iface t' (.ptr b 0)]=>bif Nat.beq t 414&&Nat.beq t' 519 then (match H.get b,H.get 3 with
  |some (.cells [_] el ex pl false),some (.cells (.iface r (.agg [.ptr 8 o])::_) _ _ _ _)=>bif Nat.beq r 434&&Nat.beq o 227 then .ok ⟨.bool true,H.set b (.cells [.int .i64 e] el ex pl false),next,c⟩ else .fail
  |_,_=> .fail) else .fail
 |_=> .fail
theorem Qi7 {G:Ax.Env} {n0:Nat} (hng:G.T.ng=9):Ax.ZO Tryz.prog G n0 201 Ql5:=by
 intro c X H next w args vs r hr hc hg hH h0 hfr hargs fr cs
 unfold Ql5 at hr;split at hr;rename_i a;cases hr;obtain ⟨v,vs',hvs,hv,h2⟩:=Ax.Q7.1 hargs;obtain ⟨v2,vs'',rfl,-,h4⟩:=Ax.Q7.1 h2;simp only [Ax.AV.rel] at hv;subst hv;rw [Ax.rels_nil] at h4;subst h4;have hva:vs=#[.nilIface,v2]:=by rw [<-Array.toList_inj];exact hvs
 subst hva;obtain ⟨u,w',⟨rfl,hw⟩,g1⟩:=Ax.Ze (q:=λv w' =>v= .bool false/\w' =w) ((Qo3 v2 w).mono λe w' ⟨he,hw⟩=>⟨_,he,rfl,hw⟩) fr cs;rw [hw] at g1;exact ⟨X,_,w,g1,Ax.Ext.le.refl X,by simp only [Ax.AV.rel],hH,Below.refl _ _,λb hb _=>⟨hb,rfl⟩,Nat.le_refl _,hfr,hc⟩;rename_i t e t' b;cases ht:(Nat.beq t 414&&Nat.beq t' 519) with
 |false=>rw [ht] at hr;cases hr
 |true=>
  rw [ht] at hr;simp only [cond_true] at hr;simp only [Bool.and_eq_true,Nat.beq_eq] at ht;obtain ⟨rfl,rfl⟩:=ht;split at hr;rename_i a0 el ex pl rt o r' el' ex' pl' ro' hb hb3;cases hk:(Nat.beq rt 434&&Nat.beq o 227) with
  |false=>rw [hk] at hr;cases hr
  |true=>
   rw [hk] at hr;simp only [cond_true] at hr;cases hr;simp only [Bool.and_eq_true,Nat.beq_eq] at hk;obtain ⟨rfl,rfl⟩:=hk;obtain ⟨v,vs',hvs,hv,h2⟩:=Ax.Q7.1 hargs;obtain ⟨v2,vs'',rfl,hv2,h4⟩:=Ax.Q7.1 h2;rw [Ax.rels_nil] at h4;subst h4;simp only [Ax.AV.rel] at hv hv2;obtain ⟨u,rfl,us,rfl,hus⟩:=hv;obtain ⟨u2,rfl,p,hp,rfl⟩:=hv2;obtain ⟨x,xs,e1,hx,hxs⟩:=Ax.Q7.1 hus;rw [Ax.rels_nil] at hxs;subst hxs;simp only [Ax.AV.rel] at hx;obtain ⟨hok,rfl⟩:=hx;have hus' :us=#[.int .i64 (e.den X.O)]:=by rw [<-Array.toList_inj];exact e1
   subst hus';have hva:vs=#[.iface 414 (.agg #[.int .i64 (e.den X.O)]), .iface 519 (.pointer (some ⟨p.blk,p.base+0,none⟩))]:=by rw [<-Array.toList_inj];exact hvs
   subst hva;simp only [Nat.add_zero];obtain ⟨n8,hn8⟩:=hg 8 (by omega);obtain ⟨n3,hn3⟩:=hg 3 (by omega);obtain ⟨cell3,hc3,hr3⟩:=hH.cell (i:=0) hb3 hn3 rfl;simp only [Ax.AV.rel] at hr3;obtain ⟨u3,rfl,vs3,rfl,hus3⟩:=hr3;obtain ⟨x3,xs3,e3,hx3,hxs3⟩:=Ax.Q7.1 hus3;rw [Ax.rels_nil] at hxs3;subst hxs3;simp only [Ax.AV.rel] at hx3;obtain ⟨p3,hp3,rfl⟩:=hx3;rw [hn8] at hp3;cases hp3;have hvs3:vs3=#[.pointer (some ⟨8,227,none⟩)]:=by rw [<-Array.toList_inj,e3]
   subst hvs3;obtain ⟨old,hcell,-⟩:=hH.cell (i:=0) hb hp rfl;have hpn:p.base+1<=p.n:=by obtain ⟨c,fr,_,_,h3,_⟩:=hH.obj b _ p hb hp;exact h3
   have hfz:=hH.notFrozen (i:=0) hb hp (by omega);have hown:=hH.own b _ p hb rfl hp;simp only [Nat.add_zero] at hcell hfz;obtain ⟨u,w',⟨rfl,hw'⟩,g1⟩:=Ax.Ze (q:=λv w' =>v= .bool true/\w' =_) ((Qo4 (e.den X.O) ⟨p.blk,p.base,none⟩ old w (by simpa using hc3) hcell hfz).mono λev w' ⟨he,hw⟩=>⟨_,he,rfl,hw⟩) fr cs;generalize hW:((((w.alloc (.cells #[.pointer (some ⟨p.blk,p.base,none⟩)] 519)).alloc (.cells #[.pointer (some ⟨8,519,none⟩), .pointer (some ⟨w.heap.size,0,none⟩), .int .u64 150] 498)).alloc (.cells #[.pointer (some ⟨8,519,none⟩), .pointer (some ⟨w.heap.size,0,none⟩), .int .u64 150] 498)).alloc (.cells #[.int .i64 (e.den X.O)] 414))=W at hw'
   have hB:Below w.heap.size w W:=by
    subst hW;have b1:=(Below.refl w.heap.size w).alloc (Nat.le_refl _) (.cells #[.pointer (some ⟨p.blk,p.base,none⟩)] 519)
    have b2:=b1.alloc b1.size (.cells #[.pointer (some ⟨8,519,none⟩), .pointer (some ⟨w.heap.size,0,none⟩), .int .u64 150] 498)
    have b3:=b2.alloc b2.size (.cells #[.pointer (some ⟨8,519,none⟩), .pointer (some ⟨w.heap.size,0,none⟩), .int .u64 150] 498)
    exact b3.alloc b3.size _
   have hHW:=Ax.Qo.grow hH hB;have hst:=hHW.store (i:=0) (a:= .int .i64 e) (v:= .int .i64 (e.den X.O)) hb hp (by simp) (by simp only [Ax.AV.rel];exact ⟨hok,trivial⟩);subst hw';refine ⟨X,_,_,g1,Ax.Ext.le.refl X,by simp only [Ax.AV.rel],hst,(hB.mono h0).trans ((Below.refl n0 W).setCell hown _),λd hd _=>⟨hd,Ax.Tr.Q0 _ _ (Ax.QN hp hd)⟩,Nat.le_refl _,hfr,hc⟩
  cases hr
 cases hr
end Go.Proofs.YtmjjaldodkokbaaGreatDoor
namespace Go.Proofs.YtmjjaldodkokbaaGreatDoor
open Go Go.Ax Go.RowKit Go.Proofs
theorem Qgd:Qeu GB errs 5 [] (.lit true) 1000 200 17 3 []=true:=by kernel_rfl
theorem Qdh:Qlk Tryz.prog errs 5 [] (.lit true):=yZ (G:=GB) Qos Qov (Q9g Q9h) Qev Qad Qgd
end Go.Proofs.YtmjjaldodkokbaaGreatDoor
namespace Go.Proofs.YtmjjaldodkokbaaGreatDoor
open Go Go.Ax Go.RowKit Go.Proofs
noncomputable def Qm1:List (Nat×Sum):=(5,sumE errs [] (.lit true))::(70,Q2w 0)::(50,Q2w 1)::(100,Q9u 10)::(125,Q8n 10)::
 (201,Ql5)::Qjb
theorem Qg5:Qfy Tryz.prog tab Qm1:=
 .cons (λ_ _ h=>Qjd (Qev.trans (congrArg Tab.ng h.symm)) Qad Qkp Qdh) Tryz.call5<|
 .cons (λ_ _ _=>zH λs w h=>(Qbn s w h).mono λe w' ⟨h1,h2⟩=>⟨h1,by rw [h2];exact Below.refl _ _⟩) Tryz.call70<|
 .cons (λ_ _ _=>zH λs w h=>(Qbm s w h).mono λe w' ⟨h1,h2⟩=>⟨h1,by rw [h2];exact Below.refl _ _⟩) Tryz.call50<|
 .cons (λ_ _ _=>Q5w (λz k w a b c d=>Qgk z k w a b c d) (λz k w a b c=>Qgj z k w a b c)) Tryz.call100<|
 .cons (λ_ _ _=>Qc3 (λs i k w a b c d=>Qgn s i k w a b c d) (λs i k w a b c d e=>Qgm s i k w a b c d e)) Tryz.call125<|
 .cons (λ_ _ h=>Qi7 (by rw [h];rfl)) Tryz.call201 Q9h
noncomputable def GF:Env:=⟨tab,ifs,Qcv Qm1⟩
theorem Qna {n0:Nat}:YZ Tryz.prog GF n0:=Q9g Qg5 n0
end Go.Proofs.YtmjjaldodkokbaaGreatDoor
