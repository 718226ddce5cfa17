/-
 The law on hosts that have sent nothing: its states at some calls, written out. Conditions: none.
-/
import Derived.Test.YtmfeholdlgfpbaaGreatDoorEQd
namespace Go.Proofs.YtmfeholdlgfpbaaGreatDoor
open Go Go.Ax Go.RowKit Go.Proofs
abbrev rL {α:Type} (n:Nat) (a:α):List α:=List.replicate n a
abbrev jL {α:Type} (l:List (List α)):List α:=l.flatten
def stl (c:List (Nat×AV)) (l:List AV):List AV:=
 match c with
 |[]=>l
 |p::c=>stl c (l.set p.1 p.2)
noncomputable def Qoy:Code:=match Tryz.f3.body with|some b=>b|none=> .skip
noncomputable def Qow:Code:=match Tryz.f11.body with|some b=>b|none=> .skip
noncomputable def dy0:E:= .bin .add .i64 (.mn (.len 406) (eL 60)) (eL 12)
noncomputable def dy1:E:= .cnv .u8 (.bin .shr .i64 (.bin .add .i64 (.len 406) (eL 12)) (eL 8))
noncomputable def dy2:E:= .cnv .u8 (.bin .shr .i64 (.bin .add .i64 (.len 406) (eL 12)) (eL 0))
noncomputable def Z27:E:= .bin .add .i64 (.pk 5 (.var 401)) (eL 167772161)
noncomputable def Zhn:E:= .bin .shr .i64 Z27 (eL 24)
noncomputable def Zhm:E:= .bin .shr .i64 Z27 (eL 16)
noncomputable def Zhl:E:= .bin .shr .i64 Z27 (eL 8)
noncomputable def Zhk:E:= .bin .shr .i64 Z27 (eL 0)
noncomputable def dx0:E:=(.fn 1 (.cons (eL 4) (.cons (eL 10) (.cons (eL 0) (.cons (eL 0) (.cons (eL 1) (.cons (.cnv .u8 Zhn) (.cons (.cnv .u8 Zhm) (.cons (.cnv .u8 Zhl) (.cons (.cnv .u8 Zhk) (.cons (.var 443) (.cons (eL 9) (.cons (eL 0) (.cons (eL 0) (.cons (eL 0) (.cons (eL 0) (.cons (eL 0) (.cons (.var 444) (.cons (.var 445) (.cons (eL 0) (.cons (eL 0) (eL 1))))))))))))))))))))))
noncomputable def dy3:E:= .cons (eL 4) (.cons (eL 10) (.cons (eL 0) (.cons (eL 0) (.cons (eL 1) (.cons (.cnv .u8 Zhn) (.cons (.cnv .u8 Zhm) (.cons (.cnv .u8 Zhl) (.cons (.cnv .u8 Zhk) (.cons (.var 443) (.cons (eL 9) (.cons (eL 0) (.cons (eL 0) (.cons (eL 0) (.cons (eL 0) (.cons (eL 0) (.cons (.var 444) (.cons (.var 445) (.cons (.cnv .u8 (.bin .shr .i64 dx0 (eL 8))) (.cons (.cnv .u8 (.bin .shr .i64 dx0 (eL 0))) (.cons (eL 0) (.cons (eL 7) (.cons (eL 192) (.cons (.cnv .u8 (.var 403)) (.cons (.var 446) (.cons (.var 447) (.cons (.var 448) (.cons (.var 449) (eL 1))))))))))))))))))))))))))))
noncomputable def dy4:E:= .pk 3 (.pk 10 (.var 405))
noncomputable def dy5:E:= .bin .sub .i64 (.var 16) (.var 396)
noncomputable def dy6:E:= .bin .add .i64 (.pk 957 (.var 404)) (eL 68)
noncomputable def dy7:E:= .bin .add .i64 (.var 396) (eL 1)
noncomputable def dy8:E:= .bin .add .i64 (.pk 40 (.var 404)) (eL 1)
noncomputable def dy9:E:= .bin .shr .i64 (.bin .add .i64 (.pk 4 (.var 404)) (eL 1)) (eL 0)
noncomputable def dy10:E:= .bin .shr .i64 (.bin .add .i64 (.pk 2 (.var 404)) (eL 1)) (eL 0)
noncomputable def Qqe:E:= .cnv .u8 (.bin .shr .i64 dy0 (eL 8))
noncomputable def Qqd:E:= .cnv .u8 (.bin .shr .i64 dy0 (eL 0))
noncomputable def Zal:E:= .bin .shr .i64 (.bin .add .i64 dy4 (eL 3)) (eL 0)
noncomputable def dy15:E:= .cons (eL 0) (.cons (eL 0) (.cons (eL 0) (.cons (eL 0) (.cons (eL 0) (.cons (eL 0) dy3)))))
noncomputable def dx1:E:=(.fn 1 (.cons (.cnv .u8 Zal) (.cons (.cnv .u8 dy9) dy15)))
noncomputable def dx2:E:=(.fn 1 (.cons (.cnv .u8 Zal) (.cons (.cnv .u8 dy10) dy15)))
noncomputable def dx3:E:=(.fn 1 (.cons (.cnv .u8 Zal) (.cons (eL 0) (.cons (eL 0) (.cons (eL 0) (.cons (.cnv .u8 (.bin .shr .i64 dy6 (eL 24))) (.cons (.cnv .u8 (.bin .shr .i64 dy6 (eL 16))) (.cons (.cnv .u8 (.bin .shr .i64 dy6 (eL 8))) (.cons (.cnv .u8 (.bin .shr .i64 dy6 (eL 0))) dy3)))))))))
noncomputable def dt0:List AV:=(jL [[.wslice 14 0 0 19 16,tt,tt,tt,tt, .bool true,tt, .ptr 54 0,tt,iV 396],rL 9 tt,[.agg (rL 5 .top),tt,tt, .agg (rL 5 .top)],rL 26 tt,[iV 396,tt,iV 16],rL 10 tt,[.agg (rL 19 .top)],rL 7 tt,[.agg (rL 19 .top)],rL 79 tt])
noncomputable def dt1:List AV:=(jL [[.agg (rL 19 .top), .ptr 420 0],rL 39 tt,[.agg (rL 9 .top)],rL 69 tt,[.agg (rL 9 .top)],rL 28 tt,[.agg (rL 9 .top),tt, .agg (rL 4 .top),tt,tt,tt, .agg (rL 4 .top)],rL 113 tt,[.agg [.int .i64 Z27,iL 167772161,iL 1, .int .i64 dy8, .int .i64 (.pk 9 (.var 404)), .bool false, .bool false,iL 0, .str (jL [[.cnv .u8 Zal, .cnv .u8 dy9, .cnv .u8 (.bin .shr .i64 dx1 (eL 8)), .cnv .u8 (.bin .shr .i64 dx1 (eL 0))],rL 4 (eL 0),[eL 4,eL 10,eL 0,eL 0,eL 1, .cnv .u8 Zhn, .cnv .u8 Zhm, .cnv .u8 Zhl, .cnv .u8 Zhk, .var 443,eL 9],rL 5 (eL 0),[.var 444, .var 445, .cnv .u8 (.bin .shr .i64 dx0 (eL 8)), .cnv .u8 (.bin .shr .i64 dx0 (eL 0)),eL 0,eL 7,eL 192, .cnv .u8 (.var 403), .var 446, .var 447, .var 448, .var 449]])]],rL 7 tt])
noncomputable def dt2:List AV:=(jL [[.wslice 14 0 0 19 16,tt,tt,tt,tt, .bool true,tt, .ptr 54 0,tt,iL 0],rL 9 tt,[.agg (rL 5 .top),tt,tt, .agg (rL 5 .top)],rL 39 tt,[.agg (rL 19 .top)],rL 5 tt,[.ptr 54 0,iL 0, .agg [iV 400,iV 401,iL 0,iV 403,iV 404, .int .i64 (.pk 10 (.var 405)),yy, .int .u8 (.var 407),iV 408,iV 409,iV 410,iV 411, .sstr (.var 412),iV 413,iV 414,iV 415,iV 416,iV 417,iV 418]],rL 79 tt])
noncomputable def dt3:List AV:=(jL [[.agg (rL 19 .top), .ptr 420 0],rL 39 tt,[.agg (rL 9 .top)],rL 69 tt,[.agg (rL 9 .top)],rL 28 tt,[.agg (rL 9 .top),tt, .agg (rL 4 .top),tt,tt,tt, .agg (rL 4 .top)],rL 113 tt,[.agg [.int .i64 Z27,iL 167772161,iL 1, .int .i64 dy8, .int .i64 (.pk 9 (.var 404)), .bool false, .bool false,iL 0, .str (jL [[.cnv .u8 Zal, .cnv .u8 dy10, .cnv .u8 (.bin .shr .i64 dx2 (eL 8)), .cnv .u8 (.bin .shr .i64 dx2 (eL 0))],rL 4 (eL 0),[eL 4,eL 10,eL 0,eL 0,eL 1, .cnv .u8 Zhn, .cnv .u8 Zhm, .cnv .u8 Zhl, .cnv .u8 Zhk, .var 443,eL 9],rL 5 (eL 0),[.var 444, .var 445, .cnv .u8 (.bin .shr .i64 dx0 (eL 8)), .cnv .u8 (.bin .shr .i64 dx0 (eL 0)),eL 0,eL 7,eL 192, .cnv .u8 (.var 403), .var 446, .var 447, .var 448, .var 449]])]],rL 7 tt])
noncomputable def dt4:List AV:=(jL [[.agg (rL 19 .top), .ptr 420 0],rL 39 tt,[.agg (rL 9 .top)],rL 69 tt,[.agg (rL 9 .top)],rL 28 tt,[.agg (rL 9 .top),tt, .agg (rL 4 .top),tt,tt,tt, .agg (rL 4 .top)],rL 113 tt,[.agg [.int .i64 Z27,iL 167772161,iL 1, .int .i64 dy8, .int .i64 (.pk 9 (.var 404)), .bool false, .bool false,iL 0, .str (jL [[.cnv .u8 Zal,eL 0, .cnv .u8 (.bin .shr .i64 dx3 (eL 8)), .cnv .u8 (.bin .shr .i64 dx3 (eL 0)), .cnv .u8 (.bin .shr .i64 dy6 (eL 24)), .cnv .u8 (.bin .shr .i64 dy6 (eL 16)), .cnv .u8 (.bin .shr .i64 dy6 (eL 8)), .cnv .u8 (.bin .shr .i64 dy6 (eL 0)),eL 4,eL 10,eL 0,eL 0,eL 1, .cnv .u8 Zhn, .cnv .u8 Zhm, .cnv .u8 Zhl, .cnv .u8 Zhk, .var 443,eL 9],rL 5 (eL 0),[.var 444, .var 445, .cnv .u8 (.bin .shr .i64 dx0 (eL 8)), .cnv .u8 (.bin .shr .i64 dx0 (eL 0)),eL 0,eL 7,eL 192, .cnv .u8 (.var 403), .var 446, .var 447, .var 448, .var 449]])]],rL 7 tt])
noncomputable def dt5:List AV:=(jL [[.agg (rL 19 .top), .ptr 420 0],rL 39 tt,[.agg (rL 9 .top)],rL 128 tt,[.agg [.top, .top, .top]],rL 89 tt,[.agg [.int .i64 Z27,iL 167772161,iL 17, .int .i64 dy8, .int .i64 (.pk 9 (.var 404)), .bool false, .bool false,iL 0, .sstr (.var 423)]],rL 7 tt])
noncomputable def dt6:List AV:=(jL [[.wslice 14 0 0 19 16,tt,tt,tt,tt, .bool true,tt, .ptr 54 0,tt,iL 0],rL 9 tt,[.agg (rL 5 .top),tt,tt, .agg (rL 5 .top)],rL 39 tt,[.agg (rL 19 .top)],rL 5 tt,[.ptr 54 0,iL 0, .agg [iV 400,iV 401,iL 0,iV 403,iV 404, .int .i64 (.pk 10 (.var 405)), .sstr (.var 406), .int .u8 (.var 407),iV 408,iV 409,iV 410,iV 411, .sstr (.var 412),iV 413,iV 414,iV 415,iV 416,iV 417,iV 418]],rL 79 tt])
noncomputable def dt7:List AV:=(jL [[.agg (rL 19 .top), .ptr 420 0],rL 39 tt,[.agg (rL 9 .top)],rL 155 tt,[.agg (rL 13 .top)],rL 36 tt,[.agg (rL 13 .top)],rL 25 tt,[.agg [.int .i64 Z27,iL 167772161,iL 6, .int .i64 dy8, .int .i64 (.pk 9 (.var 404)), .bool false, .bool false,iL 0, .sstr (.var 424)]],rL 7 tt])
noncomputable def dt8:List AV:=(jL [[.agg (rL 19 .top), .ptr 420 0],rL 39 tt,[.agg (rL 9 .top)],rL 218 tt,[.agg [.int .i64 Z27,iL 167772161,iL 200, .int .i64 dy8, .int .i64 (.pk 9 (.var 404)), .bool false, .bool false,iL 0, .sstr (.sub (.var 406) (eL 0) (.mn (.len 406) (eL 60)))]],rL 7 tt])
noncomputable def dt9:List AV:=(jL [[.wslice 14 0 0 19 16,tt,tt,tt,tt, .bool true,tt, .ptr 54 0,tt,iL 0],rL 9 tt,[.agg (rL 5 .top),tt,tt, .agg (rL 5 .top)],rL 7 tt,[.agg (rL 8 .top),tt,tt, .agg (rL 8 .top),tt,tt, .agg (rL 8 .top),tt,tt, .agg (rL 8 .top),tt,tt, .agg (rL 8 .top),tt,tt, .agg (rL 8 .top),tt,tt,tt,iL 0,tt,iV 16],rL 98 tt])
noncomputable def do0:Nat×ObG:=(0, .o (.cells [.iface 752 (.ptr 9 0)] 215 false false true))
noncomputable def do1:Nat×ObG:=(2, .o (.cells [.iface 752 (.ptr 10 0)] 215 false false true))
noncomputable def do2:Nat×ObG:=(3, .o (.cells [.iface 752 (.ptr 11 0)] 215 false false true))
noncomputable def do3:Nat×ObG:=(4, .o (.cells [.iface 752 (.ptr 12 0)] 215 false false true))
noncomputable def do4:Nat×ObG:=(5, .o (.cells [.iface 752 (.ptr 13 0)] 215 false false true))
noncomputable def do5:Nat×ObG:=(6, .o (.cells (aL [0,1,1,0,2,2,1,3,3,1,2,2,1,5,0,2,4,3,2,5,4,2,6,6,3,5,4,3,6,6,4,7,5,4,6,7,5,6,9,6,5,8,7,7,9,8,7,0]) 698 false false true))
noncomputable def do6:Nat×ObG:=(54, .o (.cells [.ptr 47 0, .slice 49 0 1 1 5 false, .slice 51 0 1 1 4 false, .slice 58 0 1 1 1 false, .ptr 53 0, .ptr 43 0, .ptr 41 0, .ptr 46 0,iL 5,iL 0,iL 0, .nilslice,iL 0, .nilmap, .nilmap, .nilslice, .nilslice, .nilslice] 100 true true false))
noncomputable def do7:Nat×ObG:=(47, .o (.cells [.nilslice] 185 true true false))
noncomputable def do8:Nat×ObG:=(49, .o (.cells (aL [1,167772161,167772160,24,500]) 74 false true false))
noncomputable def do9:Nat×ObG:=(51, .o (.cells (aL [0,0,167772414,0]) 76 false true false))
noncomputable def Qqk:Nat×ObG:=(58, .o (.cells [.ptr 56 0] 101 false true false))
noncomputable def Qqr:Nat×ObG:=(56, .o (.cells [iL 167772161,iL 1, .nilmap, .bool false,iL 0] 193 true true false))
noncomputable def Qqj:Nat×ObG:=(53, .o (.cells [.map 52, .nilslice] 189 true true false))
noncomputable def Qqi:Nat×ObG:=(52, .o (.map [] 0))
noncomputable def Qqh:Nat×ObG:=(43, .o (.cells [.nilslice,iL 5, .ptr 42 0,iL 0,iL 0, .nilslice, .nilslice] 176 true true false))
noncomputable def Qqg:Nat×ObG:=(42, .o (.cells [.nilslice] 291 true true false))
noncomputable def Qqf:Nat×ObG:=(41, .o (.cells [.nilslice, .nilmap,iL 0] 168 true true false))
noncomputable def Qro:Nat×ObG:=(46, .o (.cells [iL 5, .ptr 44 0, .map 45,iL 0,iL 0,iL 0, .nilslice, .nilslice, .nilslice] 182 true true false))
noncomputable def Qrn:Nat×ObG:=(44, .o (.cells (jL [[iL 5,iL 0],rL 5 .nilmap]) 301 true true false))
noncomputable def Qrm:Nat×ObG:=(45, .o (.map [] 0))
noncomputable def dq20:List Fact:=[⟨.geq,(.var 16),(eL 0),true⟩,⟨.leq,(.var 16),(eL 9223372036854775807),true⟩]
noncomputable def dq21:List Fact:=[⟨.geq,(.var 396),(eL 0),true⟩,⟨.leq,(.var 396),(eL 30),true⟩,⟨.geq,(.var 16),(eL 0),true⟩,⟨.leq,(.var 16),(eL 9223372036854775807),true⟩]
noncomputable def Quc:Nat×ObG:=(56, .o (.cells [iL 167772161,iL 1, .nilmap, .bool true,iV 397] 193 true true false))
noncomputable def dq23:List Fact:=[⟨.geq,(.var 397),(eL 0),true⟩,⟨.leq,(.var 397),(eL 30),true⟩,⟨.geq,(.var 396),(eL 0),true⟩,⟨.leq,(.var 396),(eL 30),true⟩,⟨.geq,(.var 16),(eL 0),true⟩,⟨.leq,(.var 16),(eL 9223372036854775807),true⟩]
noncomputable def dq24:List Fact:=[⟨.gtr,(.var 16),(eL 0),true⟩,⟨.geq,(.var 16),(eL 0),true⟩,⟨.leq,(.var 16),(eL 9223372036854775807),true⟩]
noncomputable def Qs0:Nat×ObG:=(420, .o (.cells [iV 400,iV 401,iL 0,iV 403,iV 404, .int .i64 (.pk 10 (.var 405)),yy, .int .u8 (.var 407),iV 408,iV 409,iV 410,iV 411, .sstr (.var 412),iV 413,iV 414,iV 415,iV 416,iV 417,iV 418] 46 true true false))
noncomputable def df26:FrG:=⟨⟨3,150,rg (sk 7 [0,1,0,0,1,0,0,1,1,1,0] Qoy) 3,[.code (sk 7 [0,1,0,0,1,0,0,1,1,1,1] Qoy), .inBlock 1, .code (sk 7 [0,1,0,0,1,1] Qoy), .inLoop (sk 7 [0,1,0,0] Qoy), .inBlock 0, .code (sk 8 [] Qoy)],dt2⟩,[],none⟩
noncomputable def dq27:List Fact:=[⟨.lss,dy4,(eL 1),true⟩,⟨.geq,(.var 443),(eL 1),true⟩,⟨.leq,(.var 443),(eL 17),true⟩,⟨.geq,(.var 444),(eL 0),true⟩,⟨.leq,(.var 444),(eL 0),true⟩,⟨.geq,(.var 445),(eL 12),true⟩,⟨.leq,(.var 445),(eL 72),true⟩,⟨.geq,(.var 446),(eL 0),true⟩,⟨.leq,(.var 446),(eL 255),true⟩,⟨.geq,(.var 447),(eL 0),true⟩,⟨.leq,(.var 447),(eL 255),true⟩,⟨.geq,(.var 448),(eL 0),true⟩,⟨.leq,(.var 448),(eL 255),true⟩,⟨.geq,(.var 449),(eL 0),true⟩,⟨.leq,(.var 449),(eL 255),true⟩,⟨.geq,(.var 400),(.lit (.negSucc 9223372036854775807)),true⟩,⟨.leq,(.var 400),(eL 9223372036854775807),true⟩,⟨.geq,(.var 401),(.lit (.negSucc 9223372036854775807)),true⟩,⟨.leq,(.var 401),(eL 9223372036854775807),true⟩,⟨.geq,(.var 403),(.lit (.negSucc 9223372036854775807)),true⟩,⟨.leq,(.var 403),(eL 9223372036854775807),true⟩,⟨.geq,(.var 404),(.lit (.negSucc 9223372036854775807)),true⟩,⟨.leq,(.var 404),(eL 9223372036854775807),true⟩,⟨.geq,(.var 405),(.lit (.negSucc 9223372036854775807)),true⟩,⟨.leq,(.var 405),(eL 9223372036854775807),true⟩,⟨.geq,(.var 407),(eL 0),true⟩,⟨.leq,(.var 407),(eL 255),true⟩,⟨.geq,(.var 408),(.lit (.negSucc 9223372036854775807)),true⟩,⟨.leq,(.var 408),(eL 9223372036854775807),true⟩,⟨.geq,(.var 409),(.lit (.negSucc 9223372036854775807)),true⟩,⟨.leq,(.var 409),(eL 9223372036854775807),true⟩,⟨.geq,(.var 410),(.lit (.negSucc 9223372036854775807)),true⟩,⟨.leq,(.var 410),(eL 9223372036854775807),true⟩,⟨.geq,(.var 411),(.lit (.negSucc 9223372036854775807)),true⟩,⟨.leq,(.var 411),(eL 9223372036854775807),true⟩,⟨.leq,(.len 412),(eL 9223372036854775807),true⟩,⟨.geq,(.var 413),(.lit (.negSucc 9223372036854775807)),true⟩,⟨.leq,(.var 413),(eL 9223372036854775807),true⟩,⟨.geq,(.var 414),(.lit (.negSucc 9223372036854775807)),true⟩,⟨.leq,(.var 414),(eL 9223372036854775807),true⟩,⟨.geq,(.var 415),(.lit (.negSucc 9223372036854775807)),true⟩,⟨.leq,(.var 415),(eL 9223372036854775807),true⟩,⟨.geq,(.var 416),(.lit (.negSucc 9223372036854775807)),true⟩,⟨.leq,(.var 416),(eL 9223372036854775807),true⟩,⟨.geq,(.var 417),(.lit (.negSucc 9223372036854775807)),true⟩,⟨.leq,(.var 417),(eL 9223372036854775807),true⟩,⟨.geq,(.var 418),(.lit (.negSucc 9223372036854775807)),true⟩,⟨.leq,(.var 418),(eL 9223372036854775807),true⟩,⟨.gtr,(.var 16),(eL 0),true⟩,⟨.geq,(.var 16),(eL 0),true⟩,⟨.leq,(.var 16),(eL 9223372036854775807),true⟩]
noncomputable def dq28:List Fact:=[⟨.lss,dy4,(eL 2),true⟩,⟨.lss,dy4,(eL 1),false⟩,⟨.geq,(.var 443),(eL 1),true⟩,⟨.leq,(.var 443),(eL 17),true⟩,⟨.geq,(.var 444),(eL 0),true⟩,⟨.leq,(.var 444),(eL 0),true⟩,⟨.geq,(.var 445),(eL 12),true⟩,⟨.leq,(.var 445),(eL 72),true⟩,⟨.geq,(.var 446),(eL 0),true⟩,⟨.leq,(.var 446),(eL 255),true⟩,⟨.geq,(.var 447),(eL 0),true⟩,⟨.leq,(.var 447),(eL 255),true⟩,⟨.geq,(.var 448),(eL 0),true⟩,⟨.leq,(.var 448),(eL 255),true⟩,⟨.geq,(.var 449),(eL 0),true⟩,⟨.leq,(.var 449),(eL 255),true⟩,⟨.geq,(.var 400),(.lit (.negSucc 9223372036854775807)),true⟩,⟨.leq,(.var 400),(eL 9223372036854775807),true⟩,⟨.geq,(.var 401),(.lit (.negSucc 9223372036854775807)),true⟩,⟨.leq,(.var 401),(eL 9223372036854775807),true⟩,⟨.geq,(.var 403),(.lit (.negSucc 9223372036854775807)),true⟩,⟨.leq,(.var 403),(eL 9223372036854775807),true⟩,⟨.geq,(.var 404),(.lit (.negSucc 9223372036854775807)),true⟩,⟨.leq,(.var 404),(eL 9223372036854775807),true⟩,⟨.geq,(.var 405),(.lit (.negSucc 9223372036854775807)),true⟩,⟨.leq,(.var 405),(eL 9223372036854775807),true⟩,⟨.geq,(.var 407),(eL 0),true⟩,⟨.leq,(.var 407),(eL 255),true⟩,⟨.geq,(.var 408),(.lit (.negSucc 9223372036854775807)),true⟩,⟨.leq,(.var 408),(eL 9223372036854775807),true⟩,⟨.geq,(.var 409),(.lit (.negSucc 9223372036854775807)),true⟩,⟨.leq,(.var 409),(eL 9223372036854775807),true⟩,⟨.geq,(.var 410),(.lit (.negSucc 9223372036854775807)),true⟩,⟨.leq,(.var 410),(eL 9223372036854775807),true⟩,⟨.geq,(.var 411),(.lit (.negSucc 9223372036854775807)),true⟩,⟨.leq,(.var 411),(eL 9223372036854775807),true⟩,⟨.leq,(.len 412),(eL 9223372036854775807),true⟩,⟨.geq,(.var 413),(.lit (.negSucc 9223372036854775807)),true⟩,⟨.leq,(.var 413),(eL 9223372036854775807),true⟩,⟨.geq,(.var 414),(.lit (.negSucc 9223372036854775807)),true⟩,⟨.leq,(.var 414),(eL 9223372036854775807),true⟩,⟨.geq,(.var 415),(.lit (.negSucc 9223372036854775807)),true⟩,⟨.leq,(.var 415),(eL 9223372036854775807),true⟩,⟨.geq,(.var 416),(.lit (.negSucc 9223372036854775807)),true⟩,⟨.leq,(.var 416),(eL 9223372036854775807),true⟩,⟨.geq,(.var 417),(.lit (.negSucc 9223372036854775807)),true⟩,⟨.leq,(.var 417),(eL 9223372036854775807),true⟩,⟨.geq,(.var 418),(.lit (.negSucc 9223372036854775807)),true⟩,⟨.leq,(.var 418),(eL 9223372036854775807),true⟩,⟨.gtr,(.var 16),(eL 0),true⟩,⟨.geq,(.var 16),(eL 0),true⟩,⟨.leq,(.var 16),(eL 9223372036854775807),true⟩]
noncomputable def dq29:List Fact:=[⟨.lss,dy4,(eL 2),false⟩,⟨.lss,dy4,(eL 1),false⟩,⟨.geq,(.var 443),(eL 1),true⟩,⟨.leq,(.var 443),(eL 17),true⟩,⟨.geq,(.var 444),(eL 0),true⟩,⟨.leq,(.var 444),(eL 0),true⟩,⟨.geq,(.var 445),(eL 12),true⟩,⟨.leq,(.var 445),(eL 72),true⟩,⟨.geq,(.var 446),(eL 0),true⟩,⟨.leq,(.var 446),(eL 255),true⟩,⟨.geq,(.var 447),(eL 0),true⟩,⟨.leq,(.var 447),(eL 255),true⟩,⟨.geq,(.var 448),(eL 0),true⟩,⟨.leq,(.var 448),(eL 255),true⟩,⟨.geq,(.var 449),(eL 0),true⟩,⟨.leq,(.var 449),(eL 255),true⟩,⟨.geq,(.var 400),(.lit (.negSucc 9223372036854775807)),true⟩,⟨.leq,(.var 400),(eL 9223372036854775807),true⟩,⟨.geq,(.var 401),(.lit (.negSucc 9223372036854775807)),true⟩,⟨.leq,(.var 401),(eL 9223372036854775807),true⟩,⟨.geq,(.var 403),(.lit (.negSucc 9223372036854775807)),true⟩,⟨.leq,(.var 403),(eL 9223372036854775807),true⟩,⟨.geq,(.var 404),(.lit (.negSucc 9223372036854775807)),true⟩,⟨.leq,(.var 404),(eL 9223372036854775807),true⟩,⟨.geq,(.var 405),(.lit (.negSucc 9223372036854775807)),true⟩,⟨.leq,(.var 405),(eL 9223372036854775807),true⟩,⟨.geq,(.var 407),(eL 0),true⟩,⟨.leq,(.var 407),(eL 255),true⟩,⟨.geq,(.var 408),(.lit (.negSucc 9223372036854775807)),true⟩,⟨.leq,(.var 408),(eL 9223372036854775807),true⟩,⟨.geq,(.var 409),(.lit (.negSucc 9223372036854775807)),true⟩,⟨.leq,(.var 409),(eL 9223372036854775807),true⟩,⟨.geq,(.var 410),(.lit (.negSucc 9223372036854775807)),true⟩,⟨.leq,(.var 410),(eL 9223372036854775807),true⟩,⟨.geq,(.var 411),(.lit (.negSucc 9223372036854775807)),true⟩,⟨.leq,(.var 411),(eL 9223372036854775807),true⟩,⟨.leq,(.len 412),(eL 9223372036854775807),true⟩,⟨.geq,(.var 413),(.lit (.negSucc 9223372036854775807)),true⟩,⟨.leq,(.var 413),(eL 9223372036854775807),true⟩,⟨.geq,(.var 414),(.lit (.negSucc 9223372036854775807)),true⟩,⟨.leq,(.var 414),(eL 9223372036854775807),true⟩,⟨.geq,(.var 415),(.lit (.negSucc 9223372036854775807)),true⟩,⟨.leq,(.var 415),(eL 9223372036854775807),true⟩,⟨.geq,(.var 416),(.lit (.negSucc 9223372036854775807)),true⟩,⟨.leq,(.var 416),(eL 9223372036854775807),true⟩,⟨.geq,(.var 417),(.lit (.negSucc 9223372036854775807)),true⟩,⟨.leq,(.var 417),(eL 9223372036854775807),true⟩,⟨.geq,(.var 418),(.lit (.negSucc 9223372036854775807)),true⟩,⟨.leq,(.var 418),(eL 9223372036854775807),true⟩,⟨.gtr,(.var 16),(eL 0),true⟩,⟨.geq,(.var 16),(eL 0),true⟩,⟨.leq,(.var 16),(eL 9223372036854775807),true⟩]
noncomputable def Qrz:Nat×ObG:=(420, .o (.cells [iV 400,iV 401,iL 0,iV 403,iV 404, .int .i64 (.pk 10 (.var 405)), .sstr (.var 406), .int .u8 (.var 407),iV 408,iV 409,iV 410,iV 411, .sstr (.var 412),iV 413,iV 414,iV 415,iV 416,iV 417,iV 418] 46 true true false))
noncomputable def df31:FrG:=⟨⟨3,150,rg (sk 7 [0,1,0,0,1,0,0,1,1,1,0] Qoy) 3,[.code (sk 7 [0,1,0,0,1,0,0,1,1,1,1] Qoy), .inBlock 1, .code (sk 7 [0,1,0,0,1,1] Qoy), .inLoop (sk 7 [0,1,0,0] Qoy), .inBlock 0, .code (sk 8 [] Qoy)],dt6⟩,[],none⟩
noncomputable def dq32:List Fact:=[⟨.leq,(.len 423),(eL 300),true⟩,⟨.geq,(.var 400),(.lit (.negSucc 9223372036854775807)),true⟩,⟨.leq,(.var 400),(eL 9223372036854775807),true⟩,⟨.geq,(.var 401),(.lit (.negSucc 9223372036854775807)),true⟩,⟨.leq,(.var 401),(eL 9223372036854775807),true⟩,⟨.geq,(.var 403),(.lit (.negSucc 9223372036854775807)),true⟩,⟨.leq,(.var 403),(eL 9223372036854775807),true⟩,⟨.geq,(.var 404),(.lit (.negSucc 9223372036854775807)),true⟩,⟨.leq,(.var 404),(eL 9223372036854775807),true⟩,⟨.geq,(.var 405),(.lit (.negSucc 9223372036854775807)),true⟩,⟨.leq,(.var 405),(eL 9223372036854775807),true⟩,⟨.leq,(.len 406),(eL 9223372036854775807),true⟩,⟨.geq,(.var 407),(eL 0),true⟩,⟨.leq,(.var 407),(eL 255),true⟩,⟨.geq,(.var 408),(.lit (.negSucc 9223372036854775807)),true⟩,⟨.leq,(.var 408),(eL 9223372036854775807),true⟩,⟨.geq,(.var 409),(.lit (.negSucc 9223372036854775807)),true⟩,⟨.leq,(.var 409),(eL 9223372036854775807),true⟩,⟨.geq,(.var 410),(.lit (.negSucc 9223372036854775807)),true⟩,⟨.leq,(.var 410),(eL 9223372036854775807),true⟩,⟨.geq,(.var 411),(.lit (.negSucc 9223372036854775807)),true⟩,⟨.leq,(.var 411),(eL 9223372036854775807),true⟩,⟨.leq,(.len 412),(eL 9223372036854775807),true⟩,⟨.geq,(.var 413),(.lit (.negSucc 9223372036854775807)),true⟩,⟨.leq,(.var 413),(eL 9223372036854775807),true⟩,⟨.geq,(.var 414),(.lit (.negSucc 9223372036854775807)),true⟩,⟨.leq,(.var 414),(eL 9223372036854775807),true⟩,⟨.geq,(.var 415),(.lit (.negSucc 9223372036854775807)),true⟩,⟨.leq,(.var 415),(eL 9223372036854775807),true⟩,⟨.geq,(.var 416),(.lit (.negSucc 9223372036854775807)),true⟩,⟨.leq,(.var 416),(eL 9223372036854775807),true⟩,⟨.geq,(.var 417),(.lit (.negSucc 9223372036854775807)),true⟩,⟨.leq,(.var 417),(eL 9223372036854775807),true⟩,⟨.geq,(.var 418),(.lit (.negSucc 9223372036854775807)),true⟩,⟨.leq,(.var 418),(eL 9223372036854775807),true⟩,⟨.gtr,(.var 16),(eL 0),true⟩,⟨.geq,(.var 16),(eL 0),true⟩,⟨.leq,(.var 16),(eL 9223372036854775807),true⟩]
noncomputable def dq33:List Fact:=[⟨.leq,(.len 424),(eL 300),true⟩,⟨.geq,(.var 400),(.lit (.negSucc 9223372036854775807)),true⟩,⟨.leq,(.var 400),(eL 9223372036854775807),true⟩,⟨.geq,(.var 401),(.lit (.negSucc 9223372036854775807)),true⟩,⟨.leq,(.var 401),(eL 9223372036854775807),true⟩,⟨.geq,(.var 403),(.lit (.negSucc 9223372036854775807)),true⟩,⟨.leq,(.var 403),(eL 9223372036854775807),true⟩,⟨.geq,(.var 404),(.lit (.negSucc 9223372036854775807)),true⟩,⟨.leq,(.var 404),(eL 9223372036854775807),true⟩,⟨.geq,(.var 405),(.lit (.negSucc 9223372036854775807)),true⟩,⟨.leq,(.var 405),(eL 9223372036854775807),true⟩,⟨.leq,(.len 406),(eL 9223372036854775807),true⟩,⟨.geq,(.var 407),(eL 0),true⟩,⟨.leq,(.var 407),(eL 255),true⟩,⟨.geq,(.var 408),(.lit (.negSucc 9223372036854775807)),true⟩,⟨.leq,(.var 408),(eL 9223372036854775807),true⟩,⟨.geq,(.var 409),(.lit (.negSucc 9223372036854775807)),true⟩,⟨.leq,(.var 409),(eL 9223372036854775807),true⟩,⟨.geq,(.var 410),(.lit (.negSucc 9223372036854775807)),true⟩,⟨.leq,(.var 410),(eL 9223372036854775807),true⟩,⟨.geq,(.var 411),(.lit (.negSucc 9223372036854775807)),true⟩,⟨.leq,(.var 411),(eL 9223372036854775807),true⟩,⟨.leq,(.len 412),(eL 9223372036854775807),true⟩,⟨.geq,(.var 413),(.lit (.negSucc 9223372036854775807)),true⟩,⟨.leq,(.var 413),(eL 9223372036854775807),true⟩,⟨.geq,(.var 414),(.lit (.negSucc 9223372036854775807)),true⟩,⟨.leq,(.var 414),(eL 9223372036854775807),true⟩,⟨.geq,(.var 415),(.lit (.negSucc 9223372036854775807)),true⟩,⟨.leq,(.var 415),(eL 9223372036854775807),true⟩,⟨.geq,(.var 416),(.lit (.negSucc 9223372036854775807)),true⟩,⟨.leq,(.var 416),(eL 9223372036854775807),true⟩,⟨.geq,(.var 417),(.lit (.negSucc 9223372036854775807)),true⟩,⟨.leq,(.var 417),(eL 9223372036854775807),true⟩,⟨.geq,(.var 418),(.lit (.negSucc 9223372036854775807)),true⟩,⟨.leq,(.var 418),(eL 9223372036854775807),true⟩,⟨.gtr,(.var 16),(eL 0),true⟩,⟨.geq,(.var 16),(eL 0),true⟩,⟨.leq,(.var 16),(eL 9223372036854775807),true⟩]
noncomputable def dq34:List Fact:=[⟨.geq,(.var 400),(.lit (.negSucc 9223372036854775807)),true⟩,⟨.leq,(.var 400),(eL 9223372036854775807),true⟩,⟨.geq,(.var 401),(.lit (.negSucc 9223372036854775807)),true⟩,⟨.leq,(.var 401),(eL 9223372036854775807),true⟩,⟨.geq,(.var 403),(.lit (.negSucc 9223372036854775807)),true⟩,⟨.leq,(.var 403),(eL 9223372036854775807),true⟩,⟨.geq,(.var 404),(.lit (.negSucc 9223372036854775807)),true⟩,⟨.leq,(.var 404),(eL 9223372036854775807),true⟩,⟨.geq,(.var 405),(.lit (.negSucc 9223372036854775807)),true⟩,⟨.leq,(.var 405),(eL 9223372036854775807),true⟩,⟨.leq,(.len 406),(eL 9223372036854775807),true⟩,⟨.geq,(.var 407),(eL 0),true⟩,⟨.leq,(.var 407),(eL 255),true⟩,⟨.geq,(.var 408),(.lit (.negSucc 9223372036854775807)),true⟩,⟨.leq,(.var 408),(eL 9223372036854775807),true⟩,⟨.geq,(.var 409),(.lit (.negSucc 9223372036854775807)),true⟩,⟨.leq,(.var 409),(eL 9223372036854775807),true⟩,⟨.geq,(.var 410),(.lit (.negSucc 9223372036854775807)),true⟩,⟨.leq,(.var 410),(eL 9223372036854775807),true⟩,⟨.geq,(.var 411),(.lit (.negSucc 9223372036854775807)),true⟩,⟨.leq,(.var 411),(eL 9223372036854775807),true⟩,⟨.leq,(.len 412),(eL 9223372036854775807),true⟩,⟨.geq,(.var 413),(.lit (.negSucc 9223372036854775807)),true⟩,⟨.leq,(.var 413),(eL 9223372036854775807),true⟩,⟨.geq,(.var 414),(.lit (.negSucc 9223372036854775807)),true⟩,⟨.leq,(.var 414),(eL 9223372036854775807),true⟩,⟨.geq,(.var 415),(.lit (.negSucc 9223372036854775807)),true⟩,⟨.leq,(.var 415),(eL 9223372036854775807),true⟩,⟨.geq,(.var 416),(.lit (.negSucc 9223372036854775807)),true⟩,⟨.leq,(.var 416),(eL 9223372036854775807),true⟩,⟨.geq,(.var 417),(.lit (.negSucc 9223372036854775807)),true⟩,⟨.leq,(.var 417),(eL 9223372036854775807),true⟩,⟨.geq,(.var 418),(.lit (.negSucc 9223372036854775807)),true⟩,⟨.leq,(.var 418),(eL 9223372036854775807),true⟩,⟨.gtr,(.var 16),(eL 0),true⟩,⟨.geq,(.var 16),(eL 0),true⟩,⟨.leq,(.var 16),(eL 9223372036854775807),true⟩]
noncomputable def dq35:List Fact:=[⟨.lss,(.var 396),(eL 30),true⟩,⟨.gtr,dy5,(eL 0),true⟩,⟨.geq,(.var 396),(eL 0),true⟩,⟨.leq,(.var 396),(eL 30),true⟩,⟨.geq,(.var 16),(eL 0),true⟩,⟨.leq,(.var 16),(eL 9223372036854775807),true⟩]
noncomputable def df36:FrG:=⟨⟨3,150,rg (sk 7 [0,1,0,0,1,0,0,1,1,1,0] Qoy) 3,[.code (sk 7 [0,1,0,0,1,0,0,1,1,1,1] Qoy), .inBlock 1, .code (sk 7 [0,1,0,0,1,1] Qoy), .inLoop (sk 7 [0,1,0,0] Qoy), .inBlock 0, .code (sk 8 [] Qoy)],(stl [(9,iV 396),(69,iV 396)] dt2)⟩,[],none⟩
noncomputable def dq37:List Fact:=[⟨.lss,dy4,(eL 1),true⟩,⟨.geq,(.var 443),(eL 1),true⟩,⟨.leq,(.var 443),(eL 17),true⟩,⟨.geq,(.var 444),(eL 0),true⟩,⟨.leq,(.var 444),(eL 0),true⟩,⟨.geq,(.var 445),(eL 12),true⟩,⟨.leq,(.var 445),(eL 72),true⟩,⟨.geq,(.var 446),(eL 0),true⟩,⟨.leq,(.var 446),(eL 255),true⟩,⟨.geq,(.var 447),(eL 0),true⟩,⟨.leq,(.var 447),(eL 255),true⟩,⟨.geq,(.var 448),(eL 0),true⟩,⟨.leq,(.var 448),(eL 255),true⟩,⟨.geq,(.var 449),(eL 0),true⟩,⟨.leq,(.var 449),(eL 255),true⟩,⟨.geq,(.var 400),(.lit (.negSucc 9223372036854775807)),true⟩,⟨.leq,(.var 400),(eL 9223372036854775807),true⟩,⟨.geq,(.var 401),(.lit (.negSucc 9223372036854775807)),true⟩,⟨.leq,(.var 401),(eL 9223372036854775807),true⟩,⟨.geq,(.var 403),(.lit (.negSucc 9223372036854775807)),true⟩,⟨.leq,(.var 403),(eL 9223372036854775807),true⟩,⟨.geq,(.var 404),(.lit (.negSucc 9223372036854775807)),true⟩,⟨.leq,(.var 404),(eL 9223372036854775807),true⟩,⟨.geq,(.var 405),(.lit (.negSucc 9223372036854775807)),true⟩,⟨.leq,(.var 405),(eL 9223372036854775807),true⟩,⟨.geq,(.var 407),(eL 0),true⟩,⟨.leq,(.var 407),(eL 255),true⟩,⟨.geq,(.var 408),(.lit (.negSucc 9223372036854775807)),true⟩,⟨.leq,(.var 408),(eL 9223372036854775807),true⟩,⟨.geq,(.var 409),(.lit (.negSucc 9223372036854775807)),true⟩,⟨.leq,(.var 409),(eL 9223372036854775807),true⟩,⟨.geq,(.var 410),(.lit (.negSucc 9223372036854775807)),true⟩,⟨.leq,(.var 410),(eL 9223372036854775807),true⟩,⟨.geq,(.var 411),(.lit (.negSucc 9223372036854775807)),true⟩,⟨.leq,(.var 411),(eL 9223372036854775807),true⟩,⟨.leq,(.len 412),(eL 9223372036854775807),true⟩,⟨.geq,(.var 413),(.lit (.negSucc 9223372036854775807)),true⟩,⟨.leq,(.var 413),(eL 9223372036854775807),true⟩,⟨.geq,(.var 414),(.lit (.negSucc 9223372036854775807)),true⟩,⟨.leq,(.var 414),(eL 9223372036854775807),true⟩,⟨.geq,(.var 415),(.lit (.negSucc 9223372036854775807)),true⟩,⟨.leq,(.var 415),(eL 9223372036854775807),true⟩,⟨.geq,(.var 416),(.lit (.negSucc 9223372036854775807)),true⟩,⟨.leq,(.var 416),(eL 9223372036854775807),true⟩,⟨.geq,(.var 417),(.lit (.negSucc 9223372036854775807)),true⟩,⟨.leq,(.var 417),(eL 9223372036854775807),true⟩,⟨.geq,(.var 418),(.lit (.negSucc 9223372036854775807)),true⟩,⟨.leq,(.var 418),(eL 9223372036854775807),true⟩,⟨.lss,(.var 396),(eL 30),true⟩,⟨.gtr,dy5,(eL 0),true⟩,⟨.geq,(.var 396),(eL 0),true⟩,⟨.leq,(.var 396),(eL 30),true⟩,⟨.geq,(.var 16),(eL 0),true⟩,⟨.leq,(.var 16),(eL 9223372036854775807),true⟩]
noncomputable def dq38:List Fact:=[⟨.lss,dy4,(eL 2),true⟩,⟨.lss,dy4,(eL 1),false⟩,⟨.geq,(.var 443),(eL 1),true⟩,⟨.leq,(.var 443),(eL 17),true⟩,⟨.geq,(.var 444),(eL 0),true⟩,⟨.leq,(.var 444),(eL 0),true⟩,⟨.geq,(.var 445),(eL 12),true⟩,⟨.leq,(.var 445),(eL 72),true⟩,⟨.geq,(.var 446),(eL 0),true⟩,⟨.leq,(.var 446),(eL 255),true⟩,⟨.geq,(.var 447),(eL 0),true⟩,⟨.leq,(.var 447),(eL 255),true⟩,⟨.geq,(.var 448),(eL 0),true⟩,⟨.leq,(.var 448),(eL 255),true⟩,⟨.geq,(.var 449),(eL 0),true⟩,⟨.leq,(.var 449),(eL 255),true⟩,⟨.geq,(.var 400),(.lit (.negSucc 9223372036854775807)),true⟩,⟨.leq,(.var 400),(eL 9223372036854775807),true⟩,⟨.geq,(.var 401),(.lit (.negSucc 9223372036854775807)),true⟩,⟨.leq,(.var 401),(eL 9223372036854775807),true⟩,⟨.geq,(.var 403),(.lit (.negSucc 9223372036854775807)),true⟩,⟨.leq,(.var 403),(eL 9223372036854775807),true⟩,⟨.geq,(.var 404),(.lit (.negSucc 9223372036854775807)),true⟩,⟨.leq,(.var 404),(eL 9223372036854775807),true⟩,⟨.geq,(.var 405),(.lit (.negSucc 9223372036854775807)),true⟩,⟨.leq,(.var 405),(eL 9223372036854775807),true⟩,⟨.geq,(.var 407),(eL 0),true⟩,⟨.leq,(.var 407),(eL 255),true⟩,⟨.geq,(.var 408),(.lit (.negSucc 9223372036854775807)),true⟩,⟨.leq,(.var 408),(eL 9223372036854775807),true⟩,⟨.geq,(.var 409),(.lit (.negSucc 9223372036854775807)),true⟩,⟨.leq,(.var 409),(eL 9223372036854775807),true⟩,⟨.geq,(.var 410),(.lit (.negSucc 9223372036854775807)),true⟩,⟨.leq,(.var 410),(eL 9223372036854775807),true⟩,⟨.geq,(.var 411),(.lit (.negSucc 9223372036854775807)),true⟩,⟨.leq,(.var 411),(eL 9223372036854775807),true⟩,⟨.leq,(.len 412),(eL 9223372036854775807),true⟩,⟨.geq,(.var 413),(.lit (.negSucc 9223372036854775807)),true⟩,⟨.leq,(.var 413),(eL 9223372036854775807),true⟩,⟨.geq,(.var 414),(.lit (.negSucc 9223372036854775807)),true⟩,⟨.leq,(.var 414),(eL 9223372036854775807),true⟩,⟨.geq,(.var 415),(.lit (.negSucc 9223372036854775807)),true⟩,⟨.leq,(.var 415),(eL 9223372036854775807),true⟩,⟨.geq,(.var 416),(.lit (.negSucc 9223372036854775807)),true⟩,⟨.leq,(.var 416),(eL 9223372036854775807),true⟩,⟨.geq,(.var 417),(.lit (.negSucc 9223372036854775807)),true⟩,⟨.leq,(.var 417),(eL 9223372036854775807),true⟩,⟨.geq,(.var 418),(.lit (.negSucc 9223372036854775807)),true⟩,⟨.leq,(.var 418),(eL 9223372036854775807),true⟩,⟨.lss,(.var 396),(eL 30),true⟩,⟨.gtr,dy5,(eL 0),true⟩,⟨.geq,(.var 396),(eL 0),true⟩,⟨.leq,(.var 396),(eL 30),true⟩,⟨.geq,(.var 16),(eL 0),true⟩,⟨.leq,(.var 16),(eL 9223372036854775807),true⟩]
noncomputable def dq39:List Fact:=[⟨.lss,dy4,(eL 2),false⟩,⟨.lss,dy4,(eL 1),false⟩,⟨.geq,(.var 443),(eL 1),true⟩,⟨.leq,(.var 443),(eL 17),true⟩,⟨.geq,(.var 444),(eL 0),true⟩,⟨.leq,(.var 444),(eL 0),true⟩,⟨.geq,(.var 445),(eL 12),true⟩,⟨.leq,(.var 445),(eL 72),true⟩,⟨.geq,(.var 446),(eL 0),true⟩,⟨.leq,(.var 446),(eL 255),true⟩,⟨.geq,(.var 447),(eL 0),true⟩,⟨.leq,(.var 447),(eL 255),true⟩,⟨.geq,(.var 448),(eL 0),true⟩,⟨.leq,(.var 448),(eL 255),true⟩,⟨.geq,(.var 449),(eL 0),true⟩,⟨.leq,(.var 449),(eL 255),true⟩,⟨.geq,(.var 400),(.lit (.negSucc 9223372036854775807)),true⟩,⟨.leq,(.var 400),(eL 9223372036854775807),true⟩,⟨.geq,(.var 401),(.lit (.negSucc 9223372036854775807)),true⟩,⟨.leq,(.var 401),(eL 9223372036854775807),true⟩,⟨.geq,(.var 403),(.lit (.negSucc 9223372036854775807)),true⟩,⟨.leq,(.var 403),(eL 9223372036854775807),true⟩,⟨.geq,(.var 404),(.lit (.negSucc 9223372036854775807)),true⟩,⟨.leq,(.var 404),(eL 9223372036854775807),true⟩,⟨.geq,(.var 405),(.lit (.negSucc 9223372036854775807)),true⟩,⟨.leq,(.var 405),(eL 9223372036854775807),true⟩,⟨.geq,(.var 407),(eL 0),true⟩,⟨.leq,(.var 407),(eL 255),true⟩,⟨.geq,(.var 408),(.lit (.negSucc 9223372036854775807)),true⟩,⟨.leq,(.var 408),(eL 9223372036854775807),true⟩,⟨.geq,(.var 409),(.lit (.negSucc 9223372036854775807)),true⟩,⟨.leq,(.var 409),(eL 9223372036854775807),true⟩,⟨.geq,(.var 410),(.lit (.negSucc 9223372036854775807)),true⟩,⟨.leq,(.var 410),(eL 9223372036854775807),true⟩,⟨.geq,(.var 411),(.lit (.negSucc 9223372036854775807)),true⟩,⟨.leq,(.var 411),(eL 9223372036854775807),true⟩,⟨.leq,(.len 412),(eL 9223372036854775807),true⟩,⟨.geq,(.var 413),(.lit (.negSucc 9223372036854775807)),true⟩,⟨.leq,(.var 413),(eL 9223372036854775807),true⟩,⟨.geq,(.var 414),(.lit (.negSucc 9223372036854775807)),true⟩,⟨.leq,(.var 414),(eL 9223372036854775807),true⟩,⟨.geq,(.var 415),(.lit (.negSucc 9223372036854775807)),true⟩,⟨.leq,(.var 415),(eL 9223372036854775807),true⟩,⟨.geq,(.var 416),(.lit (.negSucc 9223372036854775807)),true⟩,⟨.leq,(.var 416),(eL 9223372036854775807),true⟩,⟨.geq,(.var 417),(.lit (.negSucc 9223372036854775807)),true⟩,⟨.leq,(.var 417),(eL 9223372036854775807),true⟩,⟨.geq,(.var 418),(.lit (.negSucc 9223372036854775807)),true⟩,⟨.leq,(.var 418),(eL 9223372036854775807),true⟩,⟨.lss,(.var 396),(eL 30),true⟩,⟨.gtr,dy5,(eL 0),true⟩,⟨.geq,(.var 396),(eL 0),true⟩,⟨.leq,(.var 396),(eL 30),true⟩,⟨.geq,(.var 16),(eL 0),true⟩,⟨.leq,(.var 16),(eL 9223372036854775807),true⟩]
noncomputable def df40:FrG:=⟨⟨3,150,rg (sk 7 [0,1,0,0,1,0,0,1,1,1,0] Qoy) 3,[.code (sk 7 [0,1,0,0,1,0,0,1,1,1,1] Qoy), .inBlock 1, .code (sk 7 [0,1,0,0,1,1] Qoy), .inLoop (sk 7 [0,1,0,0] Qoy), .inBlock 0, .code (sk 8 [] Qoy)],(stl [(9,iV 396),(69,iV 396)] dt6)⟩,[],none⟩
noncomputable def dq41:List Fact:=[⟨.leq,(.len 423),(eL 300),true⟩,⟨.geq,(.var 400),(.lit (.negSucc 9223372036854775807)),true⟩,⟨.leq,(.var 400),(eL 9223372036854775807),true⟩,⟨.geq,(.var 401),(.lit (.negSucc 9223372036854775807)),true⟩,⟨.leq,(.var 401),(eL 9223372036854775807),true⟩,⟨.geq,(.var 403),(.lit (.negSucc 9223372036854775807)),true⟩,⟨.leq,(.var 403),(eL 9223372036854775807),true⟩,⟨.geq,(.var 404),(.lit (.negSucc 9223372036854775807)),true⟩,⟨.leq,(.var 404),(eL 9223372036854775807),true⟩,⟨.geq,(.var 405),(.lit (.negSucc 9223372036854775807)),true⟩,⟨.leq,(.var 405),(eL 9223372036854775807),true⟩,⟨.leq,(.len 406),(eL 9223372036854775807),true⟩,⟨.geq,(.var 407),(eL 0),true⟩,⟨.leq,(.var 407),(eL 255),true⟩,⟨.geq,(.var 408),(.lit (.negSucc 9223372036854775807)),true⟩,⟨.leq,(.var 408),(eL 9223372036854775807),true⟩,⟨.geq,(.var 409),(.lit (.negSucc 9223372036854775807)),true⟩,⟨.leq,(.var 409),(eL 9223372036854775807),true⟩,⟨.geq,(.var 410),(.lit (.negSucc 9223372036854775807)),true⟩,⟨.leq,(.var 410),(eL 9223372036854775807),true⟩,⟨.geq,(.var 411),(.lit (.negSucc 9223372036854775807)),true⟩,⟨.leq,(.var 411),(eL 9223372036854775807),true⟩,⟨.leq,(.len 412),(eL 9223372036854775807),true⟩,⟨.geq,(.var 413),(.lit (.negSucc 9223372036854775807)),true⟩,⟨.leq,(.var 413),(eL 9223372036854775807),true⟩,⟨.geq,(.var 414),(.lit (.negSucc 9223372036854775807)),true⟩,⟨.leq,(.var 414),(eL 9223372036854775807),true⟩,⟨.geq,(.var 415),(.lit (.negSucc 9223372036854775807)),true⟩,⟨.leq,(.var 415),(eL 9223372036854775807),true⟩,⟨.geq,(.var 416),(.lit (.negSucc 9223372036854775807)),true⟩,⟨.leq,(.var 416),(eL 9223372036854775807),true⟩,⟨.geq,(.var 417),(.lit (.negSucc 9223372036854775807)),true⟩,⟨.leq,(.var 417),(eL 9223372036854775807),true⟩,⟨.geq,(.var 418),(.lit (.negSucc 9223372036854775807)),true⟩,⟨.leq,(.var 418),(eL 9223372036854775807),true⟩,⟨.lss,(.var 396),(eL 30),true⟩,⟨.gtr,dy5,(eL 0),true⟩,⟨.geq,(.var 396),(eL 0),true⟩,⟨.leq,(.var 396),(eL 30),true⟩,⟨.geq,(.var 16),(eL 0),true⟩,⟨.leq,(.var 16),(eL 9223372036854775807),true⟩]
noncomputable def dq42:List Fact:=[⟨.leq,(.len 424),(eL 300),true⟩,⟨.geq,(.var 400),(.lit (.negSucc 9223372036854775807)),true⟩,⟨.leq,(.var 400),(eL 9223372036854775807),true⟩,⟨.geq,(.var 401),(.lit (.negSucc 9223372036854775807)),true⟩,⟨.leq,(.var 401),(eL 9223372036854775807),true⟩,⟨.geq,(.var 403),(.lit (.negSucc 9223372036854775807)),true⟩,⟨.leq,(.var 403),(eL 9223372036854775807),true⟩,⟨.geq,(.var 404),(.lit (.negSucc 9223372036854775807)),true⟩,⟨.leq,(.var 404),(eL 9223372036854775807),true⟩,⟨.geq,(.var 405),(.lit (.negSucc 9223372036854775807)),true⟩,⟨.leq,(.var 405),(eL 9223372036854775807),true⟩,⟨.leq,(.len 406),(eL 9223372036854775807),true⟩,⟨.geq,(.var 407),(eL 0),true⟩,⟨.leq,(.var 407),(eL 255),true⟩,⟨.geq,(.var 408),(.lit (.negSucc 9223372036854775807)),true⟩,⟨.leq,(.var 408),(eL 9223372036854775807),true⟩,⟨.geq,(.var 409),(.lit (.negSucc 9223372036854775807)),true⟩,⟨.leq,(.var 409),(eL 9223372036854775807),true⟩,⟨.geq,(.var 410),(.lit (.negSucc 9223372036854775807)),true⟩,⟨.leq,(.var 410),(eL 9223372036854775807),true⟩,⟨.geq,(.var 411),(.lit (.negSucc 9223372036854775807)),true⟩,⟨.leq,(.var 411),(eL 9223372036854775807),true⟩,⟨.leq,(.len 412),(eL 9223372036854775807),true⟩,⟨.geq,(.var 413),(.lit (.negSucc 9223372036854775807)),true⟩,⟨.leq,(.var 413),(eL 9223372036854775807),true⟩,⟨.geq,(.var 414),(.lit (.negSucc 9223372036854775807)),true⟩,⟨.leq,(.var 414),(eL 9223372036854775807),true⟩,⟨.geq,(.var 415),(.lit (.negSucc 9223372036854775807)),true⟩,⟨.leq,(.var 415),(eL 9223372036854775807),true⟩,⟨.geq,(.var 416),(.lit (.negSucc 9223372036854775807)),true⟩,⟨.leq,(.var 416),(eL 9223372036854775807),true⟩,⟨.geq,(.var 417),(.lit (.negSucc 9223372036854775807)),true⟩,⟨.leq,(.var 417),(eL 9223372036854775807),true⟩,⟨.geq,(.var 418),(.lit (.negSucc 9223372036854775807)),true⟩,⟨.leq,(.var 418),(eL 9223372036854775807),true⟩,⟨.lss,(.var 396),(eL 30),true⟩,⟨.gtr,dy5,(eL 0),true⟩,⟨.geq,(.var 396),(eL 0),true⟩,⟨.leq,(.var 396),(eL 30),true⟩,⟨.geq,(.var 16),(eL 0),true⟩,⟨.leq,(.var 16),(eL 9223372036854775807),true⟩]
noncomputable def dq43:List Fact:=[⟨.geq,(.var 400),(.lit (.negSucc 9223372036854775807)),true⟩,⟨.leq,(.var 400),(eL 9223372036854775807),true⟩,⟨.geq,(.var 401),(.lit (.negSucc 9223372036854775807)),true⟩,⟨.leq,(.var 401),(eL 9223372036854775807),true⟩,⟨.geq,(.var 403),(.lit (.negSucc 9223372036854775807)),true⟩,⟨.leq,(.var 403),(eL 9223372036854775807),true⟩,⟨.geq,(.var 404),(.lit (.negSucc 9223372036854775807)),true⟩,⟨.leq,(.var 404),(eL 9223372036854775807),true⟩,⟨.geq,(.var 405),(.lit (.negSucc 9223372036854775807)),true⟩,⟨.leq,(.var 405),(eL 9223372036854775807),true⟩,⟨.leq,(.len 406),(eL 9223372036854775807),true⟩,⟨.geq,(.var 407),(eL 0),true⟩,⟨.leq,(.var 407),(eL 255),true⟩,⟨.geq,(.var 408),(.lit (.negSucc 9223372036854775807)),true⟩,⟨.leq,(.var 408),(eL 9223372036854775807),true⟩,⟨.geq,(.var 409),(.lit (.negSucc 9223372036854775807)),true⟩,⟨.leq,(.var 409),(eL 9223372036854775807),true⟩,⟨.geq,(.var 410),(.lit (.negSucc 9223372036854775807)),true⟩,⟨.leq,(.var 410),(eL 9223372036854775807),true⟩,⟨.geq,(.var 411),(.lit (.negSucc 9223372036854775807)),true⟩,⟨.leq,(.var 411),(eL 9223372036854775807),true⟩,⟨.leq,(.len 412),(eL 9223372036854775807),true⟩,⟨.geq,(.var 413),(.lit (.negSucc 9223372036854775807)),true⟩,⟨.leq,(.var 413),(eL 9223372036854775807),true⟩,⟨.geq,(.var 414),(.lit (.negSucc 9223372036854775807)),true⟩,⟨.leq,(.var 414),(eL 9223372036854775807),true⟩,⟨.geq,(.var 415),(.lit (.negSucc 9223372036854775807)),true⟩,⟨.leq,(.var 415),(eL 9223372036854775807),true⟩,⟨.geq,(.var 416),(.lit (.negSucc 9223372036854775807)),true⟩,⟨.leq,(.var 416),(eL 9223372036854775807),true⟩,⟨.geq,(.var 417),(.lit (.negSucc 9223372036854775807)),true⟩,⟨.leq,(.var 417),(eL 9223372036854775807),true⟩,⟨.geq,(.var 418),(.lit (.negSucc 9223372036854775807)),true⟩,⟨.leq,(.var 418),(eL 9223372036854775807),true⟩,⟨.lss,(.var 396),(eL 30),true⟩,⟨.gtr,dy5,(eL 0),true⟩,⟨.geq,(.var 396),(eL 0),true⟩,⟨.leq,(.var 396),(eL 30),true⟩,⟨.geq,(.var 16),(eL 0),true⟩,⟨.leq,(.var 16),(eL 9223372036854775807),true⟩]
noncomputable def dq44:List Fact:=[⟨.lss,(.var 396),(eL 30),true⟩,⟨.gtr,dy5,(eL 0),true⟩,⟨.geq,(.var 397),(eL 0),true⟩,⟨.leq,(.var 397),(eL 30),true⟩,⟨.geq,(.var 396),(eL 0),true⟩,⟨.leq,(.var 396),(eL 30),true⟩,⟨.geq,(.var 16),(eL 0),true⟩,⟨.leq,(.var 16),(eL 9223372036854775807),true⟩]
noncomputable def Zap:FrG:=⟨⟨3,150,rg (sk 7 [0,1,0,0,1,0,0,1,1,1,0] Qoy) 3,[.code (sk 7 [0,1,0,0,1,0,0,1,1,1,1] Qoy), .inBlock 1, .code (sk 7 [0,1,0,0,1,1] Qoy), .inLoop (sk 7 [0,1,0,0] Qoy), .inBlock 0, .code (sk 8 [] Qoy)],(stl [(9,iV 396),(69,iV 396),(88, .agg (rL 4 .top)),(94, .agg (rL 5 .top))] dt2)⟩,[],none⟩
noncomputable def dq46:List Fact:=[⟨.lss,dy4,(eL 1),true⟩,⟨.geq,(.var 443),(eL 1),true⟩,⟨.leq,(.var 443),(eL 17),true⟩,⟨.geq,(.var 444),(eL 0),true⟩,⟨.leq,(.var 444),(eL 0),true⟩,⟨.geq,(.var 445),(eL 12),true⟩,⟨.leq,(.var 445),(eL 72),true⟩,⟨.geq,(.var 446),(eL 0),true⟩,⟨.leq,(.var 446),(eL 255),true⟩,⟨.geq,(.var 447),(eL 0),true⟩,⟨.leq,(.var 447),(eL 255),true⟩,⟨.geq,(.var 448),(eL 0),true⟩,⟨.leq,(.var 448),(eL 255),true⟩,⟨.geq,(.var 449),(eL 0),true⟩,⟨.leq,(.var 449),(eL 255),true⟩,⟨.geq,(.var 400),(.lit (.negSucc 9223372036854775807)),true⟩,⟨.leq,(.var 400),(eL 9223372036854775807),true⟩,⟨.geq,(.var 401),(.lit (.negSucc 9223372036854775807)),true⟩,⟨.leq,(.var 401),(eL 9223372036854775807),true⟩,⟨.geq,(.var 403),(.lit (.negSucc 9223372036854775807)),true⟩,⟨.leq,(.var 403),(eL 9223372036854775807),true⟩,⟨.geq,(.var 404),(.lit (.negSucc 9223372036854775807)),true⟩,⟨.leq,(.var 404),(eL 9223372036854775807),true⟩,⟨.geq,(.var 405),(.lit (.negSucc 9223372036854775807)),true⟩,⟨.leq,(.var 405),(eL 9223372036854775807),true⟩,⟨.geq,(.var 407),(eL 0),true⟩,⟨.leq,(.var 407),(eL 255),true⟩,⟨.geq,(.var 408),(.lit (.negSucc 9223372036854775807)),true⟩,⟨.leq,(.var 408),(eL 9223372036854775807),true⟩,⟨.geq,(.var 409),(.lit (.negSucc 9223372036854775807)),true⟩,⟨.leq,(.var 409),(eL 9223372036854775807),true⟩,⟨.geq,(.var 410),(.lit (.negSucc 9223372036854775807)),true⟩,⟨.leq,(.var 410),(eL 9223372036854775807),true⟩,⟨.geq,(.var 411),(.lit (.negSucc 9223372036854775807)),true⟩,⟨.leq,(.var 411),(eL 9223372036854775807),true⟩,⟨.leq,(.len 412),(eL 9223372036854775807),true⟩,⟨.geq,(.var 413),(.lit (.negSucc 9223372036854775807)),true⟩,⟨.leq,(.var 413),(eL 9223372036854775807),true⟩,⟨.geq,(.var 414),(.lit (.negSucc 9223372036854775807)),true⟩,⟨.leq,(.var 414),(eL 9223372036854775807),true⟩,⟨.geq,(.var 415),(.lit (.negSucc 9223372036854775807)),true⟩,⟨.leq,(.var 415),(eL 9223372036854775807),true⟩,⟨.geq,(.var 416),(.lit (.negSucc 9223372036854775807)),true⟩,⟨.leq,(.var 416),(eL 9223372036854775807),true⟩,⟨.geq,(.var 417),(.lit (.negSucc 9223372036854775807)),true⟩,⟨.leq,(.var 417),(eL 9223372036854775807),true⟩,⟨.geq,(.var 418),(.lit (.negSucc 9223372036854775807)),true⟩,⟨.leq,(.var 418),(eL 9223372036854775807),true⟩,⟨.lss,(.var 396),(eL 30),true⟩,⟨.gtr,dy5,(eL 0),true⟩,⟨.geq,(.var 397),(eL 0),true⟩,⟨.leq,(.var 397),(eL 30),true⟩,⟨.geq,(.var 396),(eL 0),true⟩,⟨.leq,(.var 396),(eL 30),true⟩,⟨.geq,(.var 16),(eL 0),true⟩,⟨.leq,(.var 16),(eL 9223372036854775807),true⟩]
noncomputable def dq47:List Fact:=[⟨.lss,dy4,(eL 2),true⟩,⟨.lss,dy4,(eL 1),false⟩,⟨.geq,(.var 443),(eL 1),true⟩,⟨.leq,(.var 443),(eL 17),true⟩,⟨.geq,(.var 444),(eL 0),true⟩,⟨.leq,(.var 444),(eL 0),true⟩,⟨.geq,(.var 445),(eL 12),true⟩,⟨.leq,(.var 445),(eL 72),true⟩,⟨.geq,(.var 446),(eL 0),true⟩,⟨.leq,(.var 446),(eL 255),true⟩,⟨.geq,(.var 447),(eL 0),true⟩,⟨.leq,(.var 447),(eL 255),true⟩,⟨.geq,(.var 448),(eL 0),true⟩,⟨.leq,(.var 448),(eL 255),true⟩,⟨.geq,(.var 449),(eL 0),true⟩,⟨.leq,(.var 449),(eL 255),true⟩,⟨.geq,(.var 400),(.lit (.negSucc 9223372036854775807)),true⟩,⟨.leq,(.var 400),(eL 9223372036854775807),true⟩,⟨.geq,(.var 401),(.lit (.negSucc 9223372036854775807)),true⟩,⟨.leq,(.var 401),(eL 9223372036854775807),true⟩,⟨.geq,(.var 403),(.lit (.negSucc 9223372036854775807)),true⟩,⟨.leq,(.var 403),(eL 9223372036854775807),true⟩,⟨.geq,(.var 404),(.lit (.negSucc 9223372036854775807)),true⟩,⟨.leq,(.var 404),(eL 9223372036854775807),true⟩,⟨.geq,(.var 405),(.lit (.negSucc 9223372036854775807)),true⟩,⟨.leq,(.var 405),(eL 9223372036854775807),true⟩,⟨.geq,(.var 407),(eL 0),true⟩,⟨.leq,(.var 407),(eL 255),true⟩,⟨.geq,(.var 408),(.lit (.negSucc 9223372036854775807)),true⟩,⟨.leq,(.var 408),(eL 9223372036854775807),true⟩,⟨.geq,(.var 409),(.lit (.negSucc 9223372036854775807)),true⟩,⟨.leq,(.var 409),(eL 9223372036854775807),true⟩,⟨.geq,(.var 410),(.lit (.negSucc 9223372036854775807)),true⟩,⟨.leq,(.var 410),(eL 9223372036854775807),true⟩,⟨.geq,(.var 411),(.lit (.negSucc 9223372036854775807)),true⟩,⟨.leq,(.var 411),(eL 9223372036854775807),true⟩,⟨.leq,(.len 412),(eL 9223372036854775807),true⟩,⟨.geq,(.var 413),(.lit (.negSucc 9223372036854775807)),true⟩,⟨.leq,(.var 413),(eL 9223372036854775807),true⟩,⟨.geq,(.var 414),(.lit (.negSucc 9223372036854775807)),true⟩,⟨.leq,(.var 414),(eL 9223372036854775807),true⟩,⟨.geq,(.var 415),(.lit (.negSucc 9223372036854775807)),true⟩,⟨.leq,(.var 415),(eL 9223372036854775807),true⟩,⟨.geq,(.var 416),(.lit (.negSucc 9223372036854775807)),true⟩,⟨.leq,(.var 416),(eL 9223372036854775807),true⟩,⟨.geq,(.var 417),(.lit (.negSucc 9223372036854775807)),true⟩,⟨.leq,(.var 417),(eL 9223372036854775807),true⟩,⟨.geq,(.var 418),(.lit (.negSucc 9223372036854775807)),true⟩,⟨.leq,(.var 418),(eL 9223372036854775807),true⟩,⟨.lss,(.var 396),(eL 30),true⟩,⟨.gtr,dy5,(eL 0),true⟩,⟨.geq,(.var 397),(eL 0),true⟩,⟨.leq,(.var 397),(eL 30),true⟩,⟨.geq,(.var 396),(eL 0),true⟩,⟨.leq,(.var 396),(eL 30),true⟩,⟨.geq,(.var 16),(eL 0),true⟩,⟨.leq,(.var 16),(eL 9223372036854775807),true⟩]
noncomputable def dq48:List Fact:=[⟨.lss,dy4,(eL 2),false⟩,⟨.lss,dy4,(eL 1),false⟩,⟨.geq,(.var 443),(eL 1),true⟩,⟨.leq,(.var 443),(eL 17),true⟩,⟨.geq,(.var 444),(eL 0),true⟩,⟨.leq,(.var 444),(eL 0),true⟩,⟨.geq,(.var 445),(eL 12),true⟩,⟨.leq,(.var 445),(eL 72),true⟩,⟨.geq,(.var 446),(eL 0),true⟩,⟨.leq,(.var 446),(eL 255),true⟩,⟨.geq,(.var 447),(eL 0),true⟩,⟨.leq,(.var 447),(eL 255),true⟩,⟨.geq,(.var 448),(eL 0),true⟩,⟨.leq,(.var 448),(eL 255),true⟩,⟨.geq,(.var 449),(eL 0),true⟩,⟨.leq,(.var 449),(eL 255),true⟩,⟨.geq,(.var 400),(.lit (.negSucc 9223372036854775807)),true⟩,⟨.leq,(.var 400),(eL 9223372036854775807),true⟩,⟨.geq,(.var 401),(.lit (.negSucc 9223372036854775807)),true⟩,⟨.leq,(.var 401),(eL 9223372036854775807),true⟩,⟨.geq,(.var 403),(.lit (.negSucc 9223372036854775807)),true⟩,⟨.leq,(.var 403),(eL 9223372036854775807),true⟩,⟨.geq,(.var 404),(.lit (.negSucc 9223372036854775807)),true⟩,⟨.leq,(.var 404),(eL 9223372036854775807),true⟩,⟨.geq,(.var 405),(.lit (.negSucc 9223372036854775807)),true⟩,⟨.leq,(.var 405),(eL 9223372036854775807),true⟩,⟨.geq,(.var 407),(eL 0),true⟩,⟨.leq,(.var 407),(eL 255),true⟩,⟨.geq,(.var 408),(.lit (.negSucc 9223372036854775807)),true⟩,⟨.leq,(.var 408),(eL 9223372036854775807),true⟩,⟨.geq,(.var 409),(.lit (.negSucc 9223372036854775807)),true⟩,⟨.leq,(.var 409),(eL 9223372036854775807),true⟩,⟨.geq,(.var 410),(.lit (.negSucc 9223372036854775807)),true⟩,⟨.leq,(.var 410),(eL 9223372036854775807),true⟩,⟨.geq,(.var 411),(.lit (.negSucc 9223372036854775807)),true⟩,⟨.leq,(.var 411),(eL 9223372036854775807),true⟩,⟨.leq,(.len 412),(eL 9223372036854775807),true⟩,⟨.geq,(.var 413),(.lit (.negSucc 9223372036854775807)),true⟩,⟨.leq,(.var 413),(eL 9223372036854775807),true⟩,⟨.geq,(.var 414),(.lit (.negSucc 9223372036854775807)),true⟩,⟨.leq,(.var 414),(eL 9223372036854775807),true⟩,⟨.geq,(.var 415),(.lit (.negSucc 9223372036854775807)),true⟩,⟨.leq,(.var 415),(eL 9223372036854775807),true⟩,⟨.geq,(.var 416),(.lit (.negSucc 9223372036854775807)),true⟩,⟨.leq,(.var 416),(eL 9223372036854775807),true⟩,⟨.geq,(.var 417),(.lit (.negSucc 9223372036854775807)),true⟩,⟨.leq,(.var 417),(eL 9223372036854775807),true⟩,⟨.geq,(.var 418),(.lit (.negSucc 9223372036854775807)),true⟩,⟨.leq,(.var 418),(eL 9223372036854775807),true⟩,⟨.lss,(.var 396),(eL 30),true⟩,⟨.gtr,dy5,(eL 0),true⟩,⟨.geq,(.var 397),(eL 0),true⟩,⟨.leq,(.var 397),(eL 30),true⟩,⟨.geq,(.var 396),(eL 0),true⟩,⟨.leq,(.var 396),(eL 30),true⟩,⟨.geq,(.var 16),(eL 0),true⟩,⟨.leq,(.var 16),(eL 9223372036854775807),true⟩]
noncomputable def Zao:FrG:=⟨⟨3,150,rg (sk 7 [0,1,0,0,1,0,0,1,1,1,0] Qoy) 3,[.code (sk 7 [0,1,0,0,1,0,0,1,1,1,1] Qoy), .inBlock 1, .code (sk 7 [0,1,0,0,1,1] Qoy), .inLoop (sk 7 [0,1,0,0] Qoy), .inBlock 0, .code (sk 8 [] Qoy)],(stl [(9,iV 396),(69,iV 396),(88, .agg (rL 4 .top)),(94, .agg (rL 5 .top))] dt6)⟩,[],none⟩
noncomputable def dq50:List Fact:=[⟨.leq,(.len 423),(eL 300),true⟩,⟨.geq,(.var 400),(.lit (.negSucc 9223372036854775807)),true⟩,⟨.leq,(.var 400),(eL 9223372036854775807),true⟩,⟨.geq,(.var 401),(.lit (.negSucc 9223372036854775807)),true⟩,⟨.leq,(.var 401),(eL 9223372036854775807),true⟩,⟨.geq,(.var 403),(.lit (.negSucc 9223372036854775807)),true⟩,⟨.leq,(.var 403),(eL 9223372036854775807),true⟩,⟨.geq,(.var 404),(.lit (.negSucc 9223372036854775807)),true⟩,⟨.leq,(.var 404),(eL 9223372036854775807),true⟩,⟨.geq,(.var 405),(.lit (.negSucc 9223372036854775807)),true⟩,⟨.leq,(.var 405),(eL 9223372036854775807),true⟩,⟨.leq,(.len 406),(eL 9223372036854775807),true⟩,⟨.geq,(.var 407),(eL 0),true⟩,⟨.leq,(.var 407),(eL 255),true⟩,⟨.geq,(.var 408),(.lit (.negSucc 9223372036854775807)),true⟩,⟨.leq,(.var 408),(eL 9223372036854775807),true⟩,⟨.geq,(.var 409),(.lit (.negSucc 9223372036854775807)),true⟩,⟨.leq,(.var 409),(eL 9223372036854775807),true⟩,⟨.geq,(.var 410),(.lit (.negSucc 9223372036854775807)),true⟩,⟨.leq,(.var 410),(eL 9223372036854775807),true⟩,⟨.geq,(.var 411),(.lit (.negSucc 9223372036854775807)),true⟩,⟨.leq,(.var 411),(eL 9223372036854775807),true⟩,⟨.leq,(.len 412),(eL 9223372036854775807),true⟩,⟨.geq,(.var 413),(.lit (.negSucc 9223372036854775807)),true⟩,⟨.leq,(.var 413),(eL 9223372036854775807),true⟩,⟨.geq,(.var 414),(.lit (.negSucc 9223372036854775807)),true⟩,⟨.leq,(.var 414),(eL 9223372036854775807),true⟩,⟨.geq,(.var 415),(.lit (.negSucc 9223372036854775807)),true⟩,⟨.leq,(.var 415),(eL 9223372036854775807),true⟩,⟨.geq,(.var 416),(.lit (.negSucc 9223372036854775807)),true⟩,⟨.leq,(.var 416),(eL 9223372036854775807),true⟩,⟨.geq,(.var 417),(.lit (.negSucc 9223372036854775807)),true⟩,⟨.leq,(.var 417),(eL 9223372036854775807),true⟩,⟨.geq,(.var 418),(.lit (.negSucc 9223372036854775807)),true⟩,⟨.leq,(.var 418),(eL 9223372036854775807),true⟩,⟨.lss,(.var 396),(eL 30),true⟩,⟨.gtr,dy5,(eL 0),true⟩,⟨.geq,(.var 397),(eL 0),true⟩,⟨.leq,(.var 397),(eL 30),true⟩,⟨.geq,(.var 396),(eL 0),true⟩,⟨.leq,(.var 396),(eL 30),true⟩,⟨.geq,(.var 16),(eL 0),true⟩,⟨.leq,(.var 16),(eL 9223372036854775807),true⟩]
noncomputable def dq51:List Fact:=[⟨.leq,(.len 424),(eL 300),true⟩,⟨.geq,(.var 400),(.lit (.negSucc 9223372036854775807)),true⟩,⟨.leq,(.var 400),(eL 9223372036854775807),true⟩,⟨.geq,(.var 401),(.lit (.negSucc 9223372036854775807)),true⟩,⟨.leq,(.var 401),(eL 9223372036854775807),true⟩,⟨.geq,(.var 403),(.lit (.negSucc 9223372036854775807)),true⟩,⟨.leq,(.var 403),(eL 9223372036854775807),true⟩,⟨.geq,(.var 404),(.lit (.negSucc 9223372036854775807)),true⟩,⟨.leq,(.var 404),(eL 9223372036854775807),true⟩,⟨.geq,(.var 405),(.lit (.negSucc 9223372036854775807)),true⟩,⟨.leq,(.var 405),(eL 9223372036854775807),true⟩,⟨.leq,(.len 406),(eL 9223372036854775807),true⟩,⟨.geq,(.var 407),(eL 0),true⟩,⟨.leq,(.var 407),(eL 255),true⟩,⟨.geq,(.var 408),(.lit (.negSucc 9223372036854775807)),true⟩,⟨.leq,(.var 408),(eL 9223372036854775807),true⟩,⟨.geq,(.var 409),(.lit (.negSucc 9223372036854775807)),true⟩,⟨.leq,(.var 409),(eL 9223372036854775807),true⟩,⟨.geq,(.var 410),(.lit (.negSucc 9223372036854775807)),true⟩,⟨.leq,(.var 410),(eL 9223372036854775807),true⟩,⟨.geq,(.var 411),(.lit (.negSucc 9223372036854775807)),true⟩,⟨.leq,(.var 411),(eL 9223372036854775807),true⟩,⟨.leq,(.len 412),(eL 9223372036854775807),true⟩,⟨.geq,(.var 413),(.lit (.negSucc 9223372036854775807)),true⟩,⟨.leq,(.var 413),(eL 9223372036854775807),true⟩,⟨.geq,(.var 414),(.lit (.negSucc 9223372036854775807)),true⟩,⟨.leq,(.var 414),(eL 9223372036854775807),true⟩,⟨.geq,(.var 415),(.lit (.negSucc 9223372036854775807)),true⟩,⟨.leq,(.var 415),(eL 9223372036854775807),true⟩,⟨.geq,(.var 416),(.lit (.negSucc 9223372036854775807)),true⟩,⟨.leq,(.var 416),(eL 9223372036854775807),true⟩,⟨.geq,(.var 417),(.lit (.negSucc 9223372036854775807)),true⟩,⟨.leq,(.var 417),(eL 9223372036854775807),true⟩,⟨.geq,(.var 418),(.lit (.negSucc 9223372036854775807)),true⟩,⟨.leq,(.var 418),(eL 9223372036854775807),true⟩,⟨.lss,(.var 396),(eL 30),true⟩,⟨.gtr,dy5,(eL 0),true⟩,⟨.geq,(.var 397),(eL 0),true⟩,⟨.leq,(.var 397),(eL 30),true⟩,⟨.geq,(.var 396),(eL 0),true⟩,⟨.leq,(.var 396),(eL 30),true⟩,⟨.geq,(.var 16),(eL 0),true⟩,⟨.leq,(.var 16),(eL 9223372036854775807),true⟩]
noncomputable def dq52:List Fact:=[⟨.geq,(.var 400),(.lit (.negSucc 9223372036854775807)),true⟩,⟨.leq,(.var 400),(eL 9223372036854775807),true⟩,⟨.geq,(.var 401),(.lit (.negSucc 9223372036854775807)),true⟩,⟨.leq,(.var 401),(eL 9223372036854775807),true⟩,⟨.geq,(.var 403),(.lit (.negSucc 9223372036854775807)),true⟩,⟨.leq,(.var 403),(eL 9223372036854775807),true⟩,⟨.geq,(.var 404),(.lit (.negSucc 9223372036854775807)),true⟩,⟨.leq,(.var 404),(eL 9223372036854775807),true⟩,⟨.geq,(.var 405),(.lit (.negSucc 9223372036854775807)),true⟩,⟨.leq,(.var 405),(eL 9223372036854775807),true⟩,⟨.leq,(.len 406),(eL 9223372036854775807),true⟩,⟨.geq,(.var 407),(eL 0),true⟩,⟨.leq,(.var 407),(eL 255),true⟩,⟨.geq,(.var 408),(.lit (.negSucc 9223372036854775807)),true⟩,⟨.leq,(.var 408),(eL 9223372036854775807),true⟩,⟨.geq,(.var 409),(.lit (.negSucc 9223372036854775807)),true⟩,⟨.leq,(.var 409),(eL 9223372036854775807),true⟩,⟨.geq,(.var 410),(.lit (.negSucc 9223372036854775807)),true⟩,⟨.leq,(.var 410),(eL 9223372036854775807),true⟩,⟨.geq,(.var 411),(.lit (.negSucc 9223372036854775807)),true⟩,⟨.leq,(.var 411),(eL 9223372036854775807),true⟩,⟨.leq,(.len 412),(eL 9223372036854775807),true⟩,⟨.geq,(.var 413),(.lit (.negSucc 9223372036854775807)),true⟩,⟨.leq,(.var 413),(eL 9223372036854775807),true⟩,⟨.geq,(.var 414),(.lit (.negSucc 9223372036854775807)),true⟩,⟨.leq,(.var 414),(eL 9223372036854775807),true⟩,⟨.geq,(.var 415),(.lit (.negSucc 9223372036854775807)),true⟩,⟨.leq,(.var 415),(eL 9223372036854775807),true⟩,⟨.geq,(.var 416),(.lit (.negSucc 9223372036854775807)),true⟩,⟨.leq,(.var 416),(eL 9223372036854775807),true⟩,⟨.geq,(.var 417),(.lit (.negSucc 9223372036854775807)),true⟩,⟨.leq,(.var 417),(eL 9223372036854775807),true⟩,⟨.geq,(.var 418),(.lit (.negSucc 9223372036854775807)),true⟩,⟨.leq,(.var 418),(eL 9223372036854775807),true⟩,⟨.lss,(.var 396),(eL 30),true⟩,⟨.gtr,dy5,(eL 0),true⟩,⟨.geq,(.var 397),(eL 0),true⟩,⟨.leq,(.var 397),(eL 30),true⟩,⟨.geq,(.var 396),(eL 0),true⟩,⟨.leq,(.var 396),(eL 30),true⟩,⟨.geq,(.var 16),(eL 0),true⟩,⟨.leq,(.var 16),(eL 9223372036854775807),true⟩]
noncomputable def Qrl:Nat×ObG:=(54, .o (.cells [.ptr 47 0, .slice 49 0 1 1 5 false, .slice 51 0 1 1 4 false, .slice 58 0 1 1 1 false, .ptr 53 0, .ptr 43 0, .ptr 41 0, .ptr 46 0,iL 5,iL 0,iL 0, .nilslice,iL 6, .nilmap, .map 90, .nilslice, .nilslice, .nilslice] 100 true true false))
noncomputable def Qrk:Nat×ObG:=(46, .o (.cells [iL 5, .ptr 44 0, .map 45,iL 2,iL 0,iL 6, .slice 288 0 1 1 9 false, .nilslice, .nilslice] 182 true true false))
noncomputable def Qrj:Nat×ObG:=(44, .o (.cells [iL 5,iL 0, .map 111, .map 112, .nilmap, .nilmap, .nilmap] 301 true true false))
noncomputable def Qri:Nat×ObG:=(111, .o (.map [(.agg [iL 6,iL 80],iL 1,0),(.agg [iL 17,iL 7],iL 2,1)] 2))
noncomputable def Qrh:Nat×ObG:=(112, .o (.map [(iL 1, .slice 114 0 1 1 2 false,0),(iL 2, .slice 232 0 1 1 2 false,1)] 2))
noncomputable def Qrg:Nat×ObG:=(114, .o (.cells [iL 6,iL 80] 530 false true false))
noncomputable def Qrf:Nat×ObG:=(232, .o (.cells [iL 17,iL 7] 530 false true false))
noncomputable def Qre:Nat×ObG:=(45, .o (.map [(iL 1, .ptr 70 0,0),(iL 2, .ptr 187 0,1)] 2))
noncomputable def Qrd:Nat×ObG:=(70, .o (.cells [.nilptr,iL 1,iL 6, .bool true,iL 0,iL 4,iL 460,iL 0,iL 80,iL 0,iL 0, .nilslice,iL 0,iL 0] 277 true true false))
noncomputable def Qrc:Nat×ObG:=(187, .o (.cells (jL [[.nilptr,iL 2,iL 17, .bool true],rL 4 (iL 0),[iL 7,iL 0,iL 0, .nilslice,iL 0,iL 0]]) 277 true true false))
noncomputable def Qrb:Nat×ObG:=(288, .o (.cells [iL 11,iL 2,iL 0,iL 0,iL 0, .str [],iL 0,iL 0,iL 6] 317 false true false))
noncomputable def Qra:Nat×ObG:=(90, .o (.map [(iL 6,iL 6,5)] 6))
noncomputable def df65:FrG:=⟨⟨3,150,rg (sk 7 [0,1,0,0,1,0,0,1,1,1,0] Qoy) 3,[.code (sk 7 [0,1,0,0,1,0,0,1,1,1,1] Qoy), .inBlock 1, .code (sk 7 [0,1,0,0,1,1] Qoy), .inLoop (sk 7 [0,1,0,0] Qoy), .inBlock 0, .code (sk 8 [] Qoy)],(stl [(30, .agg (rL 8 .top)),(33, .agg (rL 8 .top)),(36, .agg (rL 8 .top)),(39, .agg (rL 8 .top)),(42, .agg (rL 8 .top)),(45, .agg (rL 8 .top))] dt2)⟩,[],none⟩
noncomputable def df66:FrG:=⟨⟨3,150,rg (sk 7 [0,1,0,0,1,0,0,1,1,1,0] Qoy) 3,[.code (sk 7 [0,1,0,0,1,0,0,1,1,1,1] Qoy), .inBlock 1, .code (sk 7 [0,1,0,0,1,1] Qoy), .inLoop (sk 7 [0,1,0,0] Qoy), .inBlock 0, .code (sk 8 [] Qoy)],(stl [(30, .agg (rL 8 .top)),(33, .agg (rL 8 .top)),(36, .agg (rL 8 .top)),(39, .agg (rL 8 .top)),(42, .agg (rL 8 .top)),(45, .agg (rL 8 .top))] dt6)⟩,[],none⟩
noncomputable def df67:FrG:=⟨⟨3,150,rg (sk 7 [0,1,0,0,1,0,0,1,1,1,0] Qoy) 3,[.code (sk 7 [0,1,0,0,1,0,0,1,1,1,1] Qoy), .inBlock 1, .code (sk 7 [0,1,0,0,1,1] Qoy), .inLoop (sk 7 [0,1,0,0] Qoy), .inBlock 0, .code (sk 8 [] Qoy)],(stl [(9,iV 396),(30, .agg (rL 8 .top)),(33, .agg (rL 8 .top)),(36, .agg (rL 8 .top)),(39, .agg (rL 8 .top)),(42, .agg (rL 8 .top)),(45, .agg (rL 8 .top)),(69,iV 396)] dt2)⟩,[],none⟩
noncomputable def df68:FrG:=⟨⟨3,150,rg (sk 7 [0,1,0,0,1,0,0,1,1,1,0] Qoy) 3,[.code (sk 7 [0,1,0,0,1,0,0,1,1,1,1] Qoy), .inBlock 1, .code (sk 7 [0,1,0,0,1,1] Qoy), .inLoop (sk 7 [0,1,0,0] Qoy), .inBlock 0, .code (sk 8 [] Qoy)],(stl [(9,iV 396),(30, .agg (rL 8 .top)),(33, .agg (rL 8 .top)),(36, .agg (rL 8 .top)),(39, .agg (rL 8 .top)),(42, .agg (rL 8 .top)),(45, .agg (rL 8 .top)),(69,iV 396)] dt6)⟩,[],none⟩
noncomputable def Zan:FrG:=⟨⟨3,150,rg (sk 7 [0,1,0,0,1,0,0,1,1,1,0] Qoy) 3,[.code (sk 7 [0,1,0,0,1,0,0,1,1,1,1] Qoy), .inBlock 1, .code (sk 7 [0,1,0,0,1,1] Qoy), .inLoop (sk 7 [0,1,0,0] Qoy), .inBlock 0, .code (sk 8 [] Qoy)],(stl [(9,iV 396),(30, .agg (rL 8 .top)),(33, .agg (rL 8 .top)),(36, .agg (rL 8 .top)),(39, .agg (rL 8 .top)),(42, .agg (rL 8 .top)),(45, .agg (rL 8 .top)),(69,iV 396),(88, .agg (rL 4 .top)),(94, .agg (rL 5 .top))] dt2)⟩,[],none⟩
noncomputable def Zam:FrG:=⟨⟨3,150,rg (sk 7 [0,1,0,0,1,0,0,1,1,1,0] Qoy) 3,[.code (sk 7 [0,1,0,0,1,0,0,1,1,1,1] Qoy), .inBlock 1, .code (sk 7 [0,1,0,0,1,1] Qoy), .inLoop (sk 7 [0,1,0,0] Qoy), .inBlock 0, .code (sk 8 [] Qoy)],(stl [(9,iV 396),(30, .agg (rL 8 .top)),(33, .agg (rL 8 .top)),(36, .agg (rL 8 .top)),(39, .agg (rL 8 .top)),(42, .agg (rL 8 .top)),(45, .agg (rL 8 .top)),(69,iV 396),(88, .agg (rL 4 .top)),(94, .agg (rL 5 .top))] dt6)⟩,[],none⟩
noncomputable def dBf0:StG:=⟨⟨⟨3,150,rg (sk 7 [0,1,0,0,0,0] Qoy) 3,[.code (sk 7 [0,1,0,0,0,1] Qoy), .code (sk 7 [0,1,0,0,1] Qoy), .inLoop (sk 7 [0,1,0,0] Qoy), .inBlock 0, .code (sk 8 [] Qoy)],(jL [[.wslice 14 0 0 19 16,tt,tt,tt,tt, .bool true,tt, .ptr 54 0,tt,iL 0],rL 9 tt,[.agg (rL 5 .top),tt,tt, .agg (rL 5 .top)],rL 26 tt,[iL 0,tt,iV 16],rL 98 tt])⟩,[],none⟩,
 [],
 [do0,do1,do2,do3,do4,do5,do6,do7,do8,do9,Qqk,Qqr,Qqj,Qqi,Qqh,Qqg,Qqf,Qro,Qrn,Qrm],59,dq20,[16]⟩
noncomputable def Zat:StG:=⟨⟨⟨3,150,rg (sk 7 [0,1,0,0,0,0] Qoy) 3,[.code (sk 7 [0,1,0,0,0,1] Qoy), .code (sk 7 [0,1,0,0,1] Qoy), .inLoop (sk 7 [0,1,0,0] Qoy), .inBlock 0, .code (sk 8 [] Qoy)],dt0⟩,[],none⟩,
 [],
 [do0,do1,do2,do3,do4,do5,do6,do7,do8,do9,Qqk,Qqr,Qqj,Qqi,Qqh,Qqg,Qqf,Qro,Qrn,Qrm],398,dq21,[396,16]⟩
noncomputable def Zak:StG:=⟨⟨⟨3,150,rg (sk 7 [0,1,0,0,0,0] Qoy) 3,[.code (sk 7 [0,1,0,0,0,1] Qoy), .code (sk 7 [0,1,0,0,1] Qoy), .inLoop (sk 7 [0,1,0,0] Qoy), .inBlock 0, .code (sk 8 [] Qoy)],(stl [(88, .agg (rL 4 .top)),(94, .agg (rL 5 .top))] dt0)⟩,[],none⟩,
 [],
 [do0,do1,do2,do3,do4,do5,do6,do7,do8,do9,Qqk,Quc,Qqj,Qqi,Qqh,Qqg,Qqf,Qro,Qrn,Qrm],398,dq23,[397,396,16]⟩
noncomputable def Zas:StG:=⟨⟨⟨3,150,rg (sk 7 [0,1,0,0,0,0] Qoy) 3,[.code (sk 7 [0,1,0,0,0,1] Qoy), .code (sk 7 [0,1,0,0,1] Qoy), .inLoop (sk 7 [0,1,0,0] Qoy), .inBlock 0, .code (sk 8 [] Qoy)],(stl [(88, .agg (rL 4 .top)),(94, .agg (rL 5 .top))] dt0)⟩,[],none⟩,
 [],
 [do0,do1,do2,do3,do4,do5,do6,do7,do8,do9,Qqk,Qqr,Qqj,Qqi,Qqh,Qqg,Qqf,Qro,Qrn,Qrm],398,dq21,[396,16]⟩
noncomputable def Zau:StG:=⟨⟨⟨3,150,rg (sk 7 [0,1,0,0,1,0,0,0] Qoy) 2,[.code (sk 7 [0,1,0,0,1,0,0,1] Qoy), .inBlock 1, .code (sk 7 [0,1,0,0,1,1] Qoy), .inLoop (sk 7 [0,1,0,0] Qoy), .inBlock 0, .code (sk 8 [] Qoy)],(jL [[.wslice 14 0 0 19 16,tt,tt,tt,tt, .bool true,tt, .ptr 54 0,tt,iL 0],rL 9 tt,[.agg (rL 5 .top),tt,tt, .agg (rL 5 .top)],rL 36 tt,[.wslice 14 0 0 19 16,iL 0],rL 89 tt])⟩,[],none⟩,
 [],
 [do0,do1,do2,do3,do4,do5,do6,do7,do8,do9,Qqk,Qqr,Qqj,Qqi,Qqh,Qqg,Qqf,Qro,Qrn,Qrm],400,dq24,[16]⟩
noncomputable def Qqc:StG:=⟨⟨⟨11,268,rg (sk 9 [0] Qow) 1,[.code (sk 10 [] Qow)],dt1⟩,[],none⟩,
 [df26],
 [do0,do1,do2,do3,do4,do5,Qs0,do6,do7,do8,do9,Qqk,Qqr,Qqj,Qqi,Qqh,Qqg,Qqf,Qro,Qrn,Qrm],450,dq27,[443,444,445,446,447,448,449,400,401,403,404,405,407,408,409,410,411,412,413,414,415,416,417,418,16]⟩
noncomputable def Qqb:StG:=⟨⟨⟨11,268,rg (sk 9 [0] Qow) 1,[.code (sk 10 [] Qow)],dt3⟩,[],none⟩,
 [df26],
 [do0,do1,do2,do3,do4,do5,Qs0,do6,do7,do8,do9,Qqk,Qqr,Qqj,Qqi,Qqh,Qqg,Qqf,Qro,Qrn,Qrm],450,dq28,[443,444,445,446,447,448,449,400,401,403,404,405,407,408,409,410,411,412,413,414,415,416,417,418,16]⟩
noncomputable def Qqa:StG:=⟨⟨⟨11,268,rg (sk 9 [0] Qow) 1,[.code (sk 10 [] Qow)],dt4⟩,[],none⟩,
 [df26],
 [do0,do1,do2,do3,do4,do5,Qs0,do6,do7,do8,do9,Qqk,Qqr,Qqj,Qqi,Qqh,Qqg,Qqf,Qro,Qrn,Qrm],450,dq29,[443,444,445,446,447,448,449,400,401,403,404,405,407,408,409,410,411,412,413,414,415,416,417,418,16]⟩
noncomputable def Z4h:StG:=⟨⟨⟨11,268,rg (sk 9 [0] Qow) 1,[.code (sk 10 [] Qow)],dt5⟩,[],none⟩,
 [df31],
 [do0,do1,do2,do3,do4,do5,Qrz,do6,do7,do8,do9,Qqk,Qqr,Qqj,Qqi,Qqh,Qqg,Qqf,Qro,Qrn,Qrm],425,dq32,[423,400,401,403,404,405,406,407,408,409,410,411,412,413,414,415,416,417,418,16]⟩
noncomputable def Qwl:StG:=⟨⟨⟨11,268,rg (sk 9 [0] Qow) 1,[.code (sk 10 [] Qow)],dt7⟩,[],none⟩,
 [df31],
 [do0,do1,do2,do3,do4,do5,Qrz,do6,do7,do8,do9,Qqk,Qqr,Qqj,Qqi,Qqh,Qqg,Qqf,Qro,Qrn,Qrm],426,dq33,[424,400,401,403,404,405,406,407,408,409,410,411,412,413,414,415,416,417,418,16]⟩
noncomputable def Z4g:StG:=⟨⟨⟨11,268,rg (sk 9 [0] Qow) 1,[.code (sk 10 [] Qow)],dt8⟩,[],none⟩,
 [df31],
 [do0,do1,do2,do3,do4,do5,Qrz,do6,do7,do8,do9,Qqk,Qqr,Qqj,Qqi,Qqh,Qqg,Qqf,Qro,Qrn,Qrm],423,dq34,[400,401,403,404,405,406,407,408,409,410,411,412,413,414,415,416,417,418,16]⟩
noncomputable def Z6v:StG:=⟨⟨⟨3,150,rg (sk 7 [0,1,0,0,1,0,0,0] Qoy) 2,[.code (sk 7 [0,1,0,0,1,0,0,1] Qoy), .inBlock 1, .code (sk 7 [0,1,0,0,1,1] Qoy), .inLoop (sk 7 [0,1,0,0] Qoy), .inBlock 0, .code (sk 8 [] Qoy)],(stl [(49,tt),(51,tt),(59, .wslice 14 0 0 19 16),(60,iV 396)] dt0)⟩,[],none⟩,
 [],
 [do0,do1,do2,do3,do4,do5,do6,do7,do8,do9,Qqk,Qqr,Qqj,Qqi,Qqh,Qqg,Qqf,Qro,Qrn,Qrm],400,dq35,[396,16]⟩
noncomputable def Qq9:StG:=⟨⟨⟨11,268,rg (sk 9 [0] Qow) 1,[.code (sk 10 [] Qow)],dt1⟩,[],none⟩,
 [df36],
 [do0,do1,do2,do3,do4,do5,Qs0,do6,do7,do8,do9,Qqk,Qqr,Qqj,Qqi,Qqh,Qqg,Qqf,Qro,Qrn,Qrm],450,dq37,[443,444,445,446,447,448,449,400,401,403,404,405,407,408,409,410,411,412,413,414,415,416,417,418,396,16]⟩
noncomputable def Qq8:StG:=⟨⟨⟨11,268,rg (sk 9 [0] Qow) 1,[.code (sk 10 [] Qow)],dt3⟩,[],none⟩,
 [df36],
 [do0,do1,do2,do3,do4,do5,Qs0,do6,do7,do8,do9,Qqk,Qqr,Qqj,Qqi,Qqh,Qqg,Qqf,Qro,Qrn,Qrm],450,dq38,[443,444,445,446,447,448,449,400,401,403,404,405,407,408,409,410,411,412,413,414,415,416,417,418,396,16]⟩
noncomputable def Qq7:StG:=⟨⟨⟨11,268,rg (sk 9 [0] Qow) 1,[.code (sk 10 [] Qow)],dt4⟩,[],none⟩,
 [df36],
 [do0,do1,do2,do3,do4,do5,Qs0,do6,do7,do8,do9,Qqk,Qqr,Qqj,Qqi,Qqh,Qqg,Qqf,Qro,Qrn,Qrm],450,dq39,[443,444,445,446,447,448,449,400,401,403,404,405,407,408,409,410,411,412,413,414,415,416,417,418,396,16]⟩
noncomputable def Z4f:StG:=⟨⟨⟨11,268,rg (sk 9 [0] Qow) 1,[.code (sk 10 [] Qow)],dt5⟩,[],none⟩,
 [df40],
 [do0,do1,do2,do3,do4,do5,Qrz,do6,do7,do8,do9,Qqk,Qqr,Qqj,Qqi,Qqh,Qqg,Qqf,Qro,Qrn,Qrm],425,dq41,[423,400,401,403,404,405,406,407,408,409,410,411,412,413,414,415,416,417,418,396,16]⟩
noncomputable def Qwk:StG:=⟨⟨⟨11,268,rg (sk 9 [0] Qow) 1,[.code (sk 10 [] Qow)],dt7⟩,[],none⟩,
 [df40],
 [do0,do1,do2,do3,do4,do5,Qrz,do6,do7,do8,do9,Qqk,Qqr,Qqj,Qqi,Qqh,Qqg,Qqf,Qro,Qrn,Qrm],426,dq42,[424,400,401,403,404,405,406,407,408,409,410,411,412,413,414,415,416,417,418,396,16]⟩
noncomputable def Z4e:StG:=⟨⟨⟨11,268,rg (sk 9 [0] Qow) 1,[.code (sk 10 [] Qow)],dt8⟩,[],none⟩,
 [df40],
 [do0,do1,do2,do3,do4,do5,Qrz,do6,do7,do8,do9,Qqk,Qqr,Qqj,Qqi,Qqh,Qqg,Qqf,Qro,Qrn,Qrm],423,dq43,[400,401,403,404,405,406,407,408,409,410,411,412,413,414,415,416,417,418,396,16]⟩
noncomputable def Z6u:StG:=⟨⟨⟨3,150,rg (sk 7 [0,1,0,0,1,0,0,0] Qoy) 2,[.code (sk 7 [0,1,0,0,1,0,0,1] Qoy), .inBlock 1, .code (sk 7 [0,1,0,0,1,1] Qoy), .inLoop (sk 7 [0,1,0,0] Qoy), .inBlock 0, .code (sk 8 [] Qoy)],(stl [(49,tt),(51,tt),(59, .wslice 14 0 0 19 16),(60,iV 396),(88, .agg (rL 4 .top)),(94, .agg (rL 5 .top))] dt0)⟩,[],none⟩,
 [],
 [do0,do1,do2,do3,do4,do5,do6,do7,do8,do9,Qqk,Quc,Qqj,Qqi,Qqh,Qqg,Qqf,Qro,Qrn,Qrm],400,dq44,[397,396,16]⟩
noncomputable def Qq6:StG:=⟨⟨⟨11,268,rg (sk 9 [0] Qow) 1,[.code (sk 10 [] Qow)],dt1⟩,[],none⟩,
 [Zap],
 [do0,do1,do2,do3,do4,do5,Qs0,do6,do7,do8,do9,Qqk,Quc,Qqj,Qqi,Qqh,Qqg,Qqf,Qro,Qrn,Qrm],450,dq46,[443,444,445,446,447,448,449,400,401,403,404,405,407,408,409,410,411,412,413,414,415,416,417,418,397,396,16]⟩
noncomputable def Qq5:StG:=⟨⟨⟨11,268,rg (sk 9 [0] Qow) 1,[.code (sk 10 [] Qow)],dt3⟩,[],none⟩,
 [Zap],
 [do0,do1,do2,do3,do4,do5,Qs0,do6,do7,do8,do9,Qqk,Quc,Qqj,Qqi,Qqh,Qqg,Qqf,Qro,Qrn,Qrm],450,dq47,[443,444,445,446,447,448,449,400,401,403,404,405,407,408,409,410,411,412,413,414,415,416,417,418,397,396,16]⟩
noncomputable def Qq4:StG:=⟨⟨⟨11,268,rg (sk 9 [0] Qow) 1,[.code (sk 10 [] Qow)],dt4⟩,[],none⟩,
 [Zap],
 [do0,do1,do2,do3,do4,do5,Qs0,do6,do7,do8,do9,Qqk,Quc,Qqj,Qqi,Qqh,Qqg,Qqf,Qro,Qrn,Qrm],450,dq48,[443,444,445,446,447,448,449,400,401,403,404,405,407,408,409,410,411,412,413,414,415,416,417,418,397,396,16]⟩
noncomputable def Z4d:StG:=⟨⟨⟨11,268,rg (sk 9 [0] Qow) 1,[.code (sk 10 [] Qow)],dt5⟩,[],none⟩,
 [Zao],
 [do0,do1,do2,do3,do4,do5,Qrz,do6,do7,do8,do9,Qqk,Quc,Qqj,Qqi,Qqh,Qqg,Qqf,Qro,Qrn,Qrm],425,dq50,[423,400,401,403,404,405,406,407,408,409,410,411,412,413,414,415,416,417,418,397,396,16]⟩
noncomputable def Qwj:StG:=⟨⟨⟨11,268,rg (sk 9 [0] Qow) 1,[.code (sk 10 [] Qow)],dt7⟩,[],none⟩,
 [Zao],
 [do0,do1,do2,do3,do4,do5,Qrz,do6,do7,do8,do9,Qqk,Quc,Qqj,Qqi,Qqh,Qqg,Qqf,Qro,Qrn,Qrm],426,dq51,[424,400,401,403,404,405,406,407,408,409,410,411,412,413,414,415,416,417,418,397,396,16]⟩
noncomputable def Z4c:StG:=⟨⟨⟨11,268,rg (sk 9 [0] Qow) 1,[.code (sk 10 [] Qow)],dt8⟩,[],none⟩,
 [Zao],
 [do0,do1,do2,do3,do4,do5,Qrz,do6,do7,do8,do9,Qqk,Quc,Qqj,Qqi,Qqh,Qqg,Qqf,Qro,Qrn,Qrm],423,dq52,[400,401,403,404,405,406,407,408,409,410,411,412,413,414,415,416,417,418,397,396,16]⟩
noncomputable def Z6t:StG:=⟨⟨⟨3,150,rg (sk 7 [0,1,0,0,1,0,0,0] Qoy) 2,[.code (sk 7 [0,1,0,0,1,0,0,1] Qoy), .inBlock 1, .code (sk 7 [0,1,0,0,1,1] Qoy), .inLoop (sk 7 [0,1,0,0] Qoy), .inBlock 0, .code (sk 8 [] Qoy)],(stl [(49,tt),(51,tt),(59, .wslice 14 0 0 19 16),(60,iV 396),(88, .agg (rL 4 .top)),(94, .agg (rL 5 .top))] dt0)⟩,[],none⟩,
 [],
 [do0,do1,do2,do3,do4,do5,do6,do7,do8,do9,Qqk,Qqr,Qqj,Qqi,Qqh,Qqg,Qqf,Qro,Qrn,Qrm],400,dq35,[396,16]⟩
noncomputable def Qq3:StG:=⟨⟨⟨11,268,rg (sk 9 [0] Qow) 1,[.code (sk 10 [] Qow)],dt1⟩,[],none⟩,
 [Zap],
 [do0,do1,do2,do3,do4,do5,Qs0,do6,do7,do8,do9,Qqk,Qqr,Qqj,Qqi,Qqh,Qqg,Qqf,Qro,Qrn,Qrm],450,dq37,[443,444,445,446,447,448,449,400,401,403,404,405,407,408,409,410,411,412,413,414,415,416,417,418,396,16]⟩
noncomputable def Qq2:StG:=⟨⟨⟨11,268,rg (sk 9 [0] Qow) 1,[.code (sk 10 [] Qow)],dt3⟩,[],none⟩,
 [Zap],
 [do0,do1,do2,do3,do4,do5,Qs0,do6,do7,do8,do9,Qqk,Qqr,Qqj,Qqi,Qqh,Qqg,Qqf,Qro,Qrn,Qrm],450,dq38,[443,444,445,446,447,448,449,400,401,403,404,405,407,408,409,410,411,412,413,414,415,416,417,418,396,16]⟩
noncomputable def Qq1:StG:=⟨⟨⟨11,268,rg (sk 9 [0] Qow) 1,[.code (sk 10 [] Qow)],dt4⟩,[],none⟩,
 [Zap],
 [do0,do1,do2,do3,do4,do5,Qs0,do6,do7,do8,do9,Qqk,Qqr,Qqj,Qqi,Qqh,Qqg,Qqf,Qro,Qrn,Qrm],450,dq39,[443,444,445,446,447,448,449,400,401,403,404,405,407,408,409,410,411,412,413,414,415,416,417,418,396,16]⟩
noncomputable def Z4b:StG:=⟨⟨⟨11,268,rg (sk 9 [0] Qow) 1,[.code (sk 10 [] Qow)],dt5⟩,[],none⟩,
 [Zao],
 [do0,do1,do2,do3,do4,do5,Qrz,do6,do7,do8,do9,Qqk,Qqr,Qqj,Qqi,Qqh,Qqg,Qqf,Qro,Qrn,Qrm],425,dq41,[423,400,401,403,404,405,406,407,408,409,410,411,412,413,414,415,416,417,418,396,16]⟩
noncomputable def Qwi:StG:=⟨⟨⟨11,268,rg (sk 9 [0] Qow) 1,[.code (sk 10 [] Qow)],dt7⟩,[],none⟩,
 [Zao],
 [do0,do1,do2,do3,do4,do5,Qrz,do6,do7,do8,do9,Qqk,Qqr,Qqj,Qqi,Qqh,Qqg,Qqf,Qro,Qrn,Qrm],426,dq42,[424,400,401,403,404,405,406,407,408,409,410,411,412,413,414,415,416,417,418,396,16]⟩
noncomputable def Z4a:StG:=⟨⟨⟨11,268,rg (sk 9 [0] Qow) 1,[.code (sk 10 [] Qow)],dt8⟩,[],none⟩,
 [Zao],
 [do0,do1,do2,do3,do4,do5,Qrz,do6,do7,do8,do9,Qqk,Qqr,Qqj,Qqi,Qqh,Qqg,Qqf,Qro,Qrn,Qrm],423,dq43,[400,401,403,404,405,406,407,408,409,410,411,412,413,414,415,416,417,418,396,16]⟩
noncomputable def dBt0:StG:=⟨⟨⟨3,150,rg (sk 7 [0,1,0,0,0,0] Qoy) 3,[.code (sk 7 [0,1,0,0,0,1] Qoy), .code (sk 7 [0,1,0,0,1] Qoy), .inLoop (sk 7 [0,1,0,0] Qoy), .inBlock 0, .code (sk 8 [] Qoy)],dt9⟩,[],none⟩,
 [],
 [do0,do1,do2,do3,do4,do5,Qrl,do7,do8,do9,Qqk,Qqr,Qqj,Qqi,Qqh,Qqg,Qqf,Qrk,Qrj,Qri,Qrh,Qrg,Qrf,Qre,Qrd,Qrc,Qrb,Qra],301,dq20,[16]⟩
noncomputable def Zar:StG:=⟨⟨⟨3,150,rg (sk 7 [0,1,0,0,0,0] Qoy) 3,[.code (sk 7 [0,1,0,0,0,1] Qoy), .code (sk 7 [0,1,0,0,1] Qoy), .inLoop (sk 7 [0,1,0,0] Qoy), .inBlock 0, .code (sk 8 [] Qoy)],(stl [(9,iV 396),(49,iV 396),(62, .agg (rL 19 .top)),(70, .agg (rL 19 .top))] dt9)⟩,[],none⟩,
 [],
 [do0,do1,do2,do3,do4,do5,Qrl,do7,do8,do9,Qqk,Qqr,Qqj,Qqi,Qqh,Qqg,Qqf,Qrk,Qrj,Qri,Qrh,Qrg,Qrf,Qre,Qrd,Qrc,Qrb,Qra],398,dq21,[396,16]⟩
noncomputable def Zaj:StG:=⟨⟨⟨3,150,rg (sk 7 [0,1,0,0,0,0] Qoy) 3,[.code (sk 7 [0,1,0,0,0,1] Qoy), .code (sk 7 [0,1,0,0,1] Qoy), .inLoop (sk 7 [0,1,0,0] Qoy), .inBlock 0, .code (sk 8 [] Qoy)],(stl [(9,iV 396),(49,iV 396),(62, .agg (rL 19 .top)),(70, .agg (rL 19 .top)),(88, .agg (rL 4 .top)),(94, .agg (rL 5 .top))] dt9)⟩,[],none⟩,
 [],
 [do0,do1,do2,do3,do4,do5,Qrl,do7,do8,do9,Qqk,Quc,Qqj,Qqi,Qqh,Qqg,Qqf,Qrk,Qrj,Qri,Qrh,Qrg,Qrf,Qre,Qrd,Qrc,Qrb,Qra],398,dq23,[397,396,16]⟩
noncomputable def Zaq:StG:=⟨⟨⟨3,150,rg (sk 7 [0,1,0,0,0,0] Qoy) 3,[.code (sk 7 [0,1,0,0,0,1] Qoy), .code (sk 7 [0,1,0,0,1] Qoy), .inLoop (sk 7 [0,1,0,0] Qoy), .inBlock 0, .code (sk 8 [] Qoy)],(stl [(9,iV 396),(49,iV 396),(62, .agg (rL 19 .top)),(70, .agg (rL 19 .top)),(88, .agg (rL 4 .top)),(94, .agg (rL 5 .top))] dt9)⟩,[],none⟩,
 [],
 [do0,do1,do2,do3,do4,do5,Qrl,do7,do8,do9,Qqk,Qqr,Qqj,Qqi,Qqh,Qqg,Qqf,Qrk,Qrj,Qri,Qrh,Qrg,Qrf,Qre,Qrd,Qrc,Qrb,Qra],398,dq21,[396,16]⟩
noncomputable def Zj6:StG:=⟨⟨⟨3,150,rg (sk 7 [0,1,0,0,1,0,0,0] Qoy) 2,[.code (sk 7 [0,1,0,0,1,0,0,1] Qoy), .inBlock 1, .code (sk 7 [0,1,0,0,1,1] Qoy), .inLoop (sk 7 [0,1,0,0] Qoy), .inBlock 0, .code (sk 8 [] Qoy)],(stl [(49,tt),(51,tt),(59, .wslice 14 0 0 19 16),(60,iL 0)] dt9)⟩,[],none⟩,
 [],
 [do0,do1,do2,do3,do4,do5,Qrl,do7,do8,do9,Qqk,Qqr,Qqj,Qqi,Qqh,Qqg,Qqf,Qrk,Qrj,Qri,Qrh,Qrg,Qrf,Qre,Qrd,Qrc,Qrb,Qra],400,dq24,[16]⟩
noncomputable def Qq0:StG:=⟨⟨⟨11,268,rg (sk 9 [0] Qow) 1,[.code (sk 10 [] Qow)],dt1⟩,[],none⟩,
 [df65],
 [do0,do1,do2,do3,do4,do5,Qs0,Qrl,do7,do8,do9,Qqk,Qqr,Qqj,Qqi,Qqh,Qqg,Qqf,Qrk,Qrj,Qri,Qrh,Qrg,Qrf,Qre,Qrd,Qrc,Qrb,Qra],450,dq27,[443,444,445,446,447,448,449,400,401,403,404,405,407,408,409,410,411,412,413,414,415,416,417,418,16]⟩
noncomputable def Qpz:StG:=⟨⟨⟨11,268,rg (sk 9 [0] Qow) 1,[.code (sk 10 [] Qow)],dt3⟩,[],none⟩,
 [df65],
 [do0,do1,do2,do3,do4,do5,Qs0,Qrl,do7,do8,do9,Qqk,Qqr,Qqj,Qqi,Qqh,Qqg,Qqf,Qrk,Qrj,Qri,Qrh,Qrg,Qrf,Qre,Qrd,Qrc,Qrb,Qra],450,dq28,[443,444,445,446,447,448,449,400,401,403,404,405,407,408,409,410,411,412,413,414,415,416,417,418,16]⟩
noncomputable def Qpy:StG:=⟨⟨⟨11,268,rg (sk 9 [0] Qow) 1,[.code (sk 10 [] Qow)],dt4⟩,[],none⟩,
 [df65],
 [do0,do1,do2,do3,do4,do5,Qs0,Qrl,do7,do8,do9,Qqk,Qqr,Qqj,Qqi,Qqh,Qqg,Qqf,Qrk,Qrj,Qri,Qrh,Qrg,Qrf,Qre,Qrd,Qrc,Qrb,Qra],450,dq29,[443,444,445,446,447,448,449,400,401,403,404,405,407,408,409,410,411,412,413,414,415,416,417,418,16]⟩
noncomputable def Z49:StG:=⟨⟨⟨11,268,rg (sk 9 [0] Qow) 1,[.code (sk 10 [] Qow)],dt5⟩,[],none⟩,
 [df66],
 [do0,do1,do2,do3,do4,do5,Qrz,Qrl,do7,do8,do9,Qqk,Qqr,Qqj,Qqi,Qqh,Qqg,Qqf,Qrk,Qrj,Qri,Qrh,Qrg,Qrf,Qre,Qrd,Qrc,Qrb,Qra],425,dq32,[423,400,401,403,404,405,406,407,408,409,410,411,412,413,414,415,416,417,418,16]⟩
noncomputable def Qwh:StG:=⟨⟨⟨11,268,rg (sk 9 [0] Qow) 1,[.code (sk 10 [] Qow)],dt7⟩,[],none⟩,
 [df66],
 [do0,do1,do2,do3,do4,do5,Qrz,Qrl,do7,do8,do9,Qqk,Qqr,Qqj,Qqi,Qqh,Qqg,Qqf,Qrk,Qrj,Qri,Qrh,Qrg,Qrf,Qre,Qrd,Qrc,Qrb,Qra],426,dq33,[424,400,401,403,404,405,406,407,408,409,410,411,412,413,414,415,416,417,418,16]⟩
noncomputable def Z48:StG:=⟨⟨⟨11,268,rg (sk 9 [0] Qow) 1,[.code (sk 10 [] Qow)],dt8⟩,[],none⟩,
 [df66],
 [do0,do1,do2,do3,do4,do5,Qrz,Qrl,do7,do8,do9,Qqk,Qqr,Qqj,Qqi,Qqh,Qqg,Qqf,Qrk,Qrj,Qri,Qrh,Qrg,Qrf,Qre,Qrd,Qrc,Qrb,Qra],423,dq34,[400,401,403,404,405,406,407,408,409,410,411,412,413,414,415,416,417,418,16]⟩
noncomputable def Z6s:StG:=⟨⟨⟨3,150,rg (sk 7 [0,1,0,0,1,0,0,0] Qoy) 2,[.code (sk 7 [0,1,0,0,1,0,0,1] Qoy), .inBlock 1, .code (sk 7 [0,1,0,0,1,1] Qoy), .inLoop (sk 7 [0,1,0,0] Qoy), .inBlock 0, .code (sk 8 [] Qoy)],(stl [(9,iV 396),(49,tt),(51,tt),(59, .wslice 14 0 0 19 16),(60,iV 396),(62, .agg (rL 19 .top)),(70, .agg (rL 19 .top))] dt9)⟩,[],none⟩,
 [],
 [do0,do1,do2,do3,do4,do5,Qrl,do7,do8,do9,Qqk,Qqr,Qqj,Qqi,Qqh,Qqg,Qqf,Qrk,Qrj,Qri,Qrh,Qrg,Qrf,Qre,Qrd,Qrc,Qrb,Qra],400,dq35,[396,16]⟩
noncomputable def Qpx:StG:=⟨⟨⟨11,268,rg (sk 9 [0] Qow) 1,[.code (sk 10 [] Qow)],dt1⟩,[],none⟩,
 [df67],
 [do0,do1,do2,do3,do4,do5,Qs0,Qrl,do7,do8,do9,Qqk,Qqr,Qqj,Qqi,Qqh,Qqg,Qqf,Qrk,Qrj,Qri,Qrh,Qrg,Qrf,Qre,Qrd,Qrc,Qrb,Qra],450,dq37,[443,444,445,446,447,448,449,400,401,403,404,405,407,408,409,410,411,412,413,414,415,416,417,418,396,16]⟩
noncomputable def Qpw:StG:=⟨⟨⟨11,268,rg (sk 9 [0] Qow) 1,[.code (sk 10 [] Qow)],dt3⟩,[],none⟩,
 [df67],
 [do0,do1,do2,do3,do4,do5,Qs0,Qrl,do7,do8,do9,Qqk,Qqr,Qqj,Qqi,Qqh,Qqg,Qqf,Qrk,Qrj,Qri,Qrh,Qrg,Qrf,Qre,Qrd,Qrc,Qrb,Qra],450,dq38,[443,444,445,446,447,448,449,400,401,403,404,405,407,408,409,410,411,412,413,414,415,416,417,418,396,16]⟩
noncomputable def Qpv:StG:=⟨⟨⟨11,268,rg (sk 9 [0] Qow) 1,[.code (sk 10 [] Qow)],dt4⟩,[],none⟩,
 [df67],
 [do0,do1,do2,do3,do4,do5,Qs0,Qrl,do7,do8,do9,Qqk,Qqr,Qqj,Qqi,Qqh,Qqg,Qqf,Qrk,Qrj,Qri,Qrh,Qrg,Qrf,Qre,Qrd,Qrc,Qrb,Qra],450,dq39,[443,444,445,446,447,448,449,400,401,403,404,405,407,408,409,410,411,412,413,414,415,416,417,418,396,16]⟩
noncomputable def Z47:StG:=⟨⟨⟨11,268,rg (sk 9 [0] Qow) 1,[.code (sk 10 [] Qow)],dt5⟩,[],none⟩,
 [df68],
 [do0,do1,do2,do3,do4,do5,Qrz,Qrl,do7,do8,do9,Qqk,Qqr,Qqj,Qqi,Qqh,Qqg,Qqf,Qrk,Qrj,Qri,Qrh,Qrg,Qrf,Qre,Qrd,Qrc,Qrb,Qra],425,dq41,[423,400,401,403,404,405,406,407,408,409,410,411,412,413,414,415,416,417,418,396,16]⟩
noncomputable def Qwg:StG:=⟨⟨⟨11,268,rg (sk 9 [0] Qow) 1,[.code (sk 10 [] Qow)],dt7⟩,[],none⟩,
 [df68],
 [do0,do1,do2,do3,do4,do5,Qrz,Qrl,do7,do8,do9,Qqk,Qqr,Qqj,Qqi,Qqh,Qqg,Qqf,Qrk,Qrj,Qri,Qrh,Qrg,Qrf,Qre,Qrd,Qrc,Qrb,Qra],426,dq42,[424,400,401,403,404,405,406,407,408,409,410,411,412,413,414,415,416,417,418,396,16]⟩
noncomputable def Z46:StG:=⟨⟨⟨11,268,rg (sk 9 [0] Qow) 1,[.code (sk 10 [] Qow)],dt8⟩,[],none⟩,
 [df68],
 [do0,do1,do2,do3,do4,do5,Qrz,Qrl,do7,do8,do9,Qqk,Qqr,Qqj,Qqi,Qqh,Qqg,Qqf,Qrk,Qrj,Qri,Qrh,Qrg,Qrf,Qre,Qrd,Qrc,Qrb,Qra],423,dq43,[400,401,403,404,405,406,407,408,409,410,411,412,413,414,415,416,417,418,396,16]⟩
noncomputable def Z6r:StG:=⟨⟨⟨3,150,rg (sk 7 [0,1,0,0,1,0,0,0] Qoy) 2,[.code (sk 7 [0,1,0,0,1,0,0,1] Qoy), .inBlock 1, .code (sk 7 [0,1,0,0,1,1] Qoy), .inLoop (sk 7 [0,1,0,0] Qoy), .inBlock 0, .code (sk 8 [] Qoy)],(stl [(9,iV 396),(49,tt),(51,tt),(59, .wslice 14 0 0 19 16),(60,iV 396),(62, .agg (rL 19 .top)),(70, .agg (rL 19 .top)),(88, .agg (rL 4 .top)),(94, .agg (rL 5 .top))] dt9)⟩,[],none⟩,
 [],
 [do0,do1,do2,do3,do4,do5,Qrl,do7,do8,do9,Qqk,Quc,Qqj,Qqi,Qqh,Qqg,Qqf,Qrk,Qrj,Qri,Qrh,Qrg,Qrf,Qre,Qrd,Qrc,Qrb,Qra],400,dq44,[397,396,16]⟩
noncomputable def Qpu:StG:=⟨⟨⟨11,268,rg (sk 9 [0] Qow) 1,[.code (sk 10 [] Qow)],dt1⟩,[],none⟩,
 [Zan],
 [do0,do1,do2,do3,do4,do5,Qs0,Qrl,do7,do8,do9,Qqk,Quc,Qqj,Qqi,Qqh,Qqg,Qqf,Qrk,Qrj,Qri,Qrh,Qrg,Qrf,Qre,Qrd,Qrc,Qrb,Qra],450,dq46,[443,444,445,446,447,448,449,400,401,403,404,405,407,408,409,410,411,412,413,414,415,416,417,418,397,396,16]⟩
noncomputable def Qpt:StG:=⟨⟨⟨11,268,rg (sk 9 [0] Qow) 1,[.code (sk 10 [] Qow)],dt3⟩,[],none⟩,
 [Zan],
 [do0,do1,do2,do3,do4,do5,Qs0,Qrl,do7,do8,do9,Qqk,Quc,Qqj,Qqi,Qqh,Qqg,Qqf,Qrk,Qrj,Qri,Qrh,Qrg,Qrf,Qre,Qrd,Qrc,Qrb,Qra],450,dq47,[443,444,445,446,447,448,449,400,401,403,404,405,407,408,409,410,411,412,413,414,415,416,417,418,397,396,16]⟩
noncomputable def Qps:StG:=⟨⟨⟨11,268,rg (sk 9 [0] Qow) 1,[.code (sk 10 [] Qow)],dt4⟩,[],none⟩,
 [Zan],
 [do0,do1,do2,do3,do4,do5,Qs0,Qrl,do7,do8,do9,Qqk,Quc,Qqj,Qqi,Qqh,Qqg,Qqf,Qrk,Qrj,Qri,Qrh,Qrg,Qrf,Qre,Qrd,Qrc,Qrb,Qra],450,dq48,[443,444,445,446,447,448,449,400,401,403,404,405,407,408,409,410,411,412,413,414,415,416,417,418,397,396,16]⟩
noncomputable def Z45:StG:=⟨⟨⟨11,268,rg (sk 9 [0] Qow) 1,[.code (sk 10 [] Qow)],dt5⟩,[],none⟩,
 [Zam],
 [do0,do1,do2,do3,do4,do5,Qrz,Qrl,do7,do8,do9,Qqk,Quc,Qqj,Qqi,Qqh,Qqg,Qqf,Qrk,Qrj,Qri,Qrh,Qrg,Qrf,Qre,Qrd,Qrc,Qrb,Qra],425,dq50,[423,400,401,403,404,405,406,407,408,409,410,411,412,413,414,415,416,417,418,397,396,16]⟩
noncomputable def Qwf:StG:=⟨⟨⟨11,268,rg (sk 9 [0] Qow) 1,[.code (sk 10 [] Qow)],dt7⟩,[],none⟩,
 [Zam],
 [do0,do1,do2,do3,do4,do5,Qrz,Qrl,do7,do8,do9,Qqk,Quc,Qqj,Qqi,Qqh,Qqg,Qqf,Qrk,Qrj,Qri,Qrh,Qrg,Qrf,Qre,Qrd,Qrc,Qrb,Qra],426,dq51,[424,400,401,403,404,405,406,407,408,409,410,411,412,413,414,415,416,417,418,397,396,16]⟩
noncomputable def Z44:StG:=⟨⟨⟨11,268,rg (sk 9 [0] Qow) 1,[.code (sk 10 [] Qow)],dt8⟩,[],none⟩,
 [Zam],
 [do0,do1,do2,do3,do4,do5,Qrz,Qrl,do7,do8,do9,Qqk,Quc,Qqj,Qqi,Qqh,Qqg,Qqf,Qrk,Qrj,Qri,Qrh,Qrg,Qrf,Qre,Qrd,Qrc,Qrb,Qra],423,dq52,[400,401,403,404,405,406,407,408,409,410,411,412,413,414,415,416,417,418,397,396,16]⟩
noncomputable def Z6q:StG:=⟨⟨⟨3,150,rg (sk 7 [0,1,0,0,1,0,0,0] Qoy) 2,[.code (sk 7 [0,1,0,0,1,0,0,1] Qoy), .inBlock 1, .code (sk 7 [0,1,0,0,1,1] Qoy), .inLoop (sk 7 [0,1,0,0] Qoy), .inBlock 0, .code (sk 8 [] Qoy)],(stl [(9,iV 396),(49,tt),(51,tt),(59, .wslice 14 0 0 19 16),(60,iV 396),(62, .agg (rL 19 .top)),(70, .agg (rL 19 .top)),(88, .agg (rL 4 .top)),(94, .agg (rL 5 .top))] dt9)⟩,[],none⟩,
 [],
 [do0,do1,do2,do3,do4,do5,Qrl,do7,do8,do9,Qqk,Qqr,Qqj,Qqi,Qqh,Qqg,Qqf,Qrk,Qrj,Qri,Qrh,Qrg,Qrf,Qre,Qrd,Qrc,Qrb,Qra],400,dq35,[396,16]⟩
noncomputable def Qpr:StG:=⟨⟨⟨11,268,rg (sk 9 [0] Qow) 1,[.code (sk 10 [] Qow)],dt1⟩,[],none⟩,
 [Zan],
 [do0,do1,do2,do3,do4,do5,Qs0,Qrl,do7,do8,do9,Qqk,Qqr,Qqj,Qqi,Qqh,Qqg,Qqf,Qrk,Qrj,Qri,Qrh,Qrg,Qrf,Qre,Qrd,Qrc,Qrb,Qra],450,dq37,[443,444,445,446,447,448,449,400,401,403,404,405,407,408,409,410,411,412,413,414,415,416,417,418,396,16]⟩
noncomputable def Qpq:StG:=⟨⟨⟨11,268,rg (sk 9 [0] Qow) 1,[.code (sk 10 [] Qow)],dt3⟩,[],none⟩,
 [Zan],
 [do0,do1,do2,do3,do4,do5,Qs0,Qrl,do7,do8,do9,Qqk,Qqr,Qqj,Qqi,Qqh,Qqg,Qqf,Qrk,Qrj,Qri,Qrh,Qrg,Qrf,Qre,Qrd,Qrc,Qrb,Qra],450,dq38,[443,444,445,446,447,448,449,400,401,403,404,405,407,408,409,410,411,412,413,414,415,416,417,418,396,16]⟩
noncomputable def Qpp:StG:=⟨⟨⟨11,268,rg (sk 9 [0] Qow) 1,[.code (sk 10 [] Qow)],dt4⟩,[],none⟩,
 [Zan],
 [do0,do1,do2,do3,do4,do5,Qs0,Qrl,do7,do8,do9,Qqk,Qqr,Qqj,Qqi,Qqh,Qqg,Qqf,Qrk,Qrj,Qri,Qrh,Qrg,Qrf,Qre,Qrd,Qrc,Qrb,Qra],450,dq39,[443,444,445,446,447,448,449,400,401,403,404,405,407,408,409,410,411,412,413,414,415,416,417,418,396,16]⟩
noncomputable def Z43:StG:=⟨⟨⟨11,268,rg (sk 9 [0] Qow) 1,[.code (sk 10 [] Qow)],dt5⟩,[],none⟩,
 [Zam],
 [do0,do1,do2,do3,do4,do5,Qrz,Qrl,do7,do8,do9,Qqk,Qqr,Qqj,Qqi,Qqh,Qqg,Qqf,Qrk,Qrj,Qri,Qrh,Qrg,Qrf,Qre,Qrd,Qrc,Qrb,Qra],425,dq41,[423,400,401,403,404,405,406,407,408,409,410,411,412,413,414,415,416,417,418,396,16]⟩
noncomputable def Qwe:StG:=⟨⟨⟨11,268,rg (sk 9 [0] Qow) 1,[.code (sk 10 [] Qow)],dt7⟩,[],none⟩,
 [Zam],
 [do0,do1,do2,do3,do4,do5,Qrz,Qrl,do7,do8,do9,Qqk,Qqr,Qqj,Qqi,Qqh,Qqg,Qqf,Qrk,Qrj,Qri,Qrh,Qrg,Qrf,Qre,Qrd,Qrc,Qrb,Qra],426,dq42,[424,400,401,403,404,405,406,407,408,409,410,411,412,413,414,415,416,417,418,396,16]⟩
noncomputable def Z42:StG:=⟨⟨⟨11,268,rg (sk 9 [0] Qow) 1,[.code (sk 10 [] Qow)],dt8⟩,[],none⟩,
 [Zam],
 [do0,do1,do2,do3,do4,do5,Qrz,Qrl,do7,do8,do9,Qqk,Qqr,Qqj,Qqi,Qqh,Qqg,Qqf,Qrk,Qrj,Qri,Qrh,Qrg,Qrf,Qre,Qrd,Qrc,Qrb,Qra],423,dq43,[400,401,403,404,405,406,407,408,409,410,411,412,413,414,415,416,417,418,396,16]⟩
def dk0:List Nat:=[14,9,10,11,12,13,16,54,47,49,51,58,56,53,52,43,42,41,46,44,45]
def dk1:List Nat:=[14,9,10,11,12,13,423,400,401,403,404,405,406,407,408,409,410,411,412,413,414,415,416,417,418,16,420,54,47,49,51,58,56,53,52,43,42,41,46,44,45]
def dk2:List Nat:=[14,9,10,11,12,13,424,400,401,403,404,405,406,407,408,409,410,411,412,413,414,415,416,417,418,16,420,54,47,49,51,58,56,53,52,43,42,41,46,44,45]
def dk3:List Nat:=[14,9,10,11,12,13,400,401,403,404,405,406,407,408,409,410,411,412,413,414,415,416,417,418,16,420,54,47,49,51,58,56,53,52,43,42,41,46,44,45]
def dk4:List Nat:=[14,9,10,11,12,13,400,401,403,404,405,407,408,409,410,411,412,413,414,415,416,417,418,16,420,54,47,49,51,58,56,53,52,43,42,41,46,44,45]
def dk5:List Nat:=[14,9,10,11,12,13,396,16,54,47,49,51,58,56,53,52,43,42,41,46,44,45]
def dk6:List Nat:=[14,9,10,11,12,13,423,400,401,403,404,405,406,407,408,409,410,411,412,413,414,415,416,417,418,396,16,420,54,47,49,51,58,56,53,52,43,42,41,46,44,45]
def dk7:List Nat:=[14,9,10,11,12,13,424,400,401,403,404,405,406,407,408,409,410,411,412,413,414,415,416,417,418,396,16,420,54,47,49,51,58,56,53,52,43,42,41,46,44,45]
def dk8:List Nat:=[14,9,10,11,12,13,400,401,403,404,405,406,407,408,409,410,411,412,413,414,415,416,417,418,396,16,420,54,47,49,51,58,56,53,52,43,42,41,46,44,45]
def dk9:List Nat:=[14,9,10,11,12,13,400,401,403,404,405,407,408,409,410,411,412,413,414,415,416,417,418,396,16,420,54,47,49,51,58,56,53,52,43,42,41,46,44,45]
def dk10:List Nat:=[14,9,10,11,12,13,397,396,16,54,47,49,51,58,56,53,52,43,42,41,46,44,45]
def dk11:List Nat:=[14,9,10,11,12,13,397,16,54,47,49,51,58,56,53,52,43,42,41,46,44,45]
def dk12:List Nat:=[14,9,10,11,12,13,423,400,401,403,404,405,406,407,408,409,410,411,412,413,414,415,416,417,418,397,396,16,420,54,47,49,51,58,56,53,52,43,42,41,46,44,45]
def dk13:List Nat:=[14,9,10,11,12,13,424,400,401,403,404,405,406,407,408,409,410,411,412,413,414,415,416,417,418,397,396,16,420,54,47,49,51,58,56,53,52,43,42,41,46,44,45]
def dk14:List Nat:=[14,9,10,11,12,13,400,401,403,404,405,406,407,408,409,410,411,412,413,414,415,416,417,418,397,396,16,420,54,47,49,51,58,56,53,52,43,42,41,46,44,45]
def Qqp:List Nat:=[14,9,10,11,12,13,400,401,403,404,405,407,408,409,410,411,412,413,414,415,416,417,418,397,396,16,420,54,47,49,51,58,56,53,52,43,42,41,46,44,45]
def Z6j:List Nat:=[14,9,10,11,12,13,16,54,47,49,51,58,56,53,52,43,42,41,46,44,111,112,114,232,45,70,187,288,90]
def dk17:List Nat:=[14,9,10,11,12,13,423,400,401,403,404,405,406,407,408,409,410,411,412,413,414,415,416,417,418,16,420,54,47,49,51,58,56,53,52,43,42,41,46,44,111,112,114,232,45,70,187,288,90]
def dk18:List Nat:=[14,9,10,11,12,13,424,400,401,403,404,405,406,407,408,409,410,411,412,413,414,415,416,417,418,16,420,54,47,49,51,58,56,53,52,43,42,41,46,44,111,112,114,232,45,70,187,288,90]
def dk19:List Nat:=[14,9,10,11,12,13,400,401,403,404,405,406,407,408,409,410,411,412,413,414,415,416,417,418,16,420,54,47,49,51,58,56,53,52,43,42,41,46,44,111,112,114,232,45,70,187,288,90]
def Qqo:List Nat:=[14,9,10,11,12,13,400,401,403,404,405,407,408,409,410,411,412,413,414,415,416,417,418,16,420,54,47,49,51,58,56,53,52,43,42,41,46,44,111,112,114,232,45,70,187,288,90]
def dk21:List Nat:=[14,9,10,11,12,13,396,16,54,47,49,51,58,56,53,52,43,42,41,46,44,111,112,114,232,45,70,187,288,90]
def dk22:List Nat:=[14,9,10,11,12,13,423,400,401,403,404,405,406,407,408,409,410,411,412,413,414,415,416,417,418,396,16,420,54,47,49,51,58,56,53,52,43,42,41,46,44,111,112,114,232,45,70,187,288,90]
def dk23:List Nat:=[14,9,10,11,12,13,424,400,401,403,404,405,406,407,408,409,410,411,412,413,414,415,416,417,418,396,16,420,54,47,49,51,58,56,53,52,43,42,41,46,44,111,112,114,232,45,70,187,288,90]
def dk24:List Nat:=[14,9,10,11,12,13,400,401,403,404,405,406,407,408,409,410,411,412,413,414,415,416,417,418,396,16,420,54,47,49,51,58,56,53,52,43,42,41,46,44,111,112,114,232,45,70,187,288,90]
def Qoz:List Nat:=[14,9,10,11,12,13,400,401,403,404,405,407,408,409,410,411,412,413,414,415,416,417,418,396,16,420,54,47,49,51,58,56,53,52,43,42,41,46,44,111,112,114,232,45,70,187,288,90]
def dk26:List Nat:=[14,9,10,11,12,13,397,396,16,54,47,49,51,58,56,53,52,43,42,41,46,44,111,112,114,232,45,70,187,288,90]
def dk27:List Nat:=[14,9,10,11,12,13,397,16,54,47,49,51,58,56,53,52,43,42,41,46,44,111,112,114,232,45,70,187,288,90]
def dk28:List Nat:=[14,9,10,11,12,13,423,400,401,403,404,405,406,407,408,409,410,411,412,413,414,415,416,417,418,397,396,16,420,54,47,49,51,58,56,53,52,43,42,41,46,44,111,112,114,232,45,70,187,288,90]
def dk29:List Nat:=[14,9,10,11,12,13,424,400,401,403,404,405,406,407,408,409,410,411,412,413,414,415,416,417,418,397,396,16,420,54,47,49,51,58,56,53,52,43,42,41,46,44,111,112,114,232,45,70,187,288,90]
def dk30:List Nat:=[14,9,10,11,12,13,400,401,403,404,405,406,407,408,409,410,411,412,413,414,415,416,417,418,397,396,16,420,54,47,49,51,58,56,53,52,43,42,41,46,44,111,112,114,232,45,70,187,288,90]
def Qqn:List Nat:=[14,9,10,11,12,13,400,401,403,404,405,407,408,409,410,411,412,413,414,415,416,417,418,397,396,16,420,54,47,49,51,58,56,53,52,43,42,41,46,44,111,112,114,232,45,70,187,288,90]
noncomputable def dg0:Tgt:=⟨[],dk0,[],dBf0⟩
noncomputable def dg1:Tgt:=⟨[],dk0,[],Zau⟩
noncomputable def dg2:Tgt:=⟨[(396,(eL 1))],dk0,[],Zat⟩
noncomputable def dg3:Tgt:=⟨[(396,(eL 1))],dk0,[],Zas⟩
noncomputable def dg4:Tgt:=⟨[(396,(eL 1)),(397,(eL 0))],dk0,[],Zak⟩
noncomputable def dg5:Tgt:=⟨[],dk1,[],Z4h⟩
noncomputable def dg6:Tgt:=⟨[],dk2,[],Qwl⟩
noncomputable def dg7:Tgt:=⟨[],dk3,[],Z4g⟩
noncomputable def dg8:Tgt:=⟨[(443,(eL 6)),(444,(eL 0)),(445,(eL 12)),(446,(eL 48)),(447,(eL 49)),(448,(eL 50)),(449,(eL 51))],dk4,[],Qqc⟩
noncomputable def dg9:Tgt:=⟨[(443,(eL 6)),(444,(eL 0)),(445,(eL 12)),(446,(eL 48)),(447,(eL 49)),(448,(eL 50)),(449,(eL 51))],dk4,[],Qqb⟩
noncomputable def dg10:Tgt:=⟨[(443,(eL 6)),(444,(eL 0)),(445,(eL 12)),(446,(eL 48)),(447,(eL 49)),(448,(eL 50)),(449,(eL 51))],dk4,[],Qqa⟩
noncomputable def dg11:Tgt:=⟨[(443,(eL 17)),(444,(eL 0)),(445,(eL 12)),(446,(eL 48)),(447,(eL 49)),(448,(eL 50)),(449,(eL 51))],dk4,[],Qqc⟩
noncomputable def dg12:Tgt:=⟨[(443,(eL 17)),(444,(eL 0)),(445,(eL 12)),(446,(eL 48)),(447,(eL 49)),(448,(eL 50)),(449,(eL 51))],dk4,[],Qqb⟩
noncomputable def dg13:Tgt:=⟨[(443,(eL 17)),(444,(eL 0)),(445,(eL 12)),(446,(eL 48)),(447,(eL 49)),(448,(eL 50)),(449,(eL 51))],dk4,[],Qqa⟩
noncomputable def dg14:Tgt:=⟨[(443,(eL 1)),(444,(eL 0)),(445,(eL 12)),(446,(eL 48)),(447,(eL 49)),(448,(eL 50)),(449,(eL 51))],dk4,[],Qqc⟩
noncomputable def dg15:Tgt:=⟨[(443,(eL 1)),(444,(eL 0)),(445,(eL 12)),(446,(eL 48)),(447,(eL 49)),(448,(eL 50)),(449,(eL 51))],dk4,[],Qqb⟩
noncomputable def dg16:Tgt:=⟨[(443,(eL 1)),(444,(eL 0)),(445,(eL 12)),(446,(eL 48)),(447,(eL 49)),(448,(eL 50)),(449,(eL 51))],dk4,[],Qqa⟩
noncomputable def dg17:Tgt:=⟨[(443,(eL 6)),(444,(eL 0)),(445,(eL 13)),(446,(.byte 406 (eL 0))),(447,(eL 48)),(448,(eL 49)),(449,(eL 50))],dk4,[],Qqc⟩
noncomputable def dg18:Tgt:=⟨[(443,(eL 6)),(444,(eL 0)),(445,(eL 13)),(446,(.byte 406 (eL 0))),(447,(eL 48)),(448,(eL 49)),(449,(eL 50))],dk4,[],Qqb⟩
noncomputable def dg19:Tgt:=⟨[(443,(eL 6)),(444,(eL 0)),(445,(eL 13)),(446,(.byte 406 (eL 0))),(447,(eL 48)),(448,(eL 49)),(449,(eL 50))],dk4,[],Qqa⟩
noncomputable def dg20:Tgt:=⟨[(443,(eL 17)),(444,(eL 0)),(445,(eL 13)),(446,(.byte 406 (eL 0))),(447,(eL 48)),(448,(eL 49)),(449,(eL 50))],dk4,[],Qqc⟩
noncomputable def dg21:Tgt:=⟨[(443,(eL 17)),(444,(eL 0)),(445,(eL 13)),(446,(.byte 406 (eL 0))),(447,(eL 48)),(448,(eL 49)),(449,(eL 50))],dk4,[],Qqb⟩
noncomputable def dg22:Tgt:=⟨[(443,(eL 17)),(444,(eL 0)),(445,(eL 13)),(446,(.byte 406 (eL 0))),(447,(eL 48)),(448,(eL 49)),(449,(eL 50))],dk4,[],Qqa⟩
noncomputable def dg23:Tgt:=⟨[(443,(eL 1)),(444,(eL 0)),(445,(eL 13)),(446,(.byte 406 (eL 0))),(447,(eL 48)),(448,(eL 49)),(449,(eL 50))],dk4,[],Qqc⟩
noncomputable def dg24:Tgt:=⟨[(443,(eL 1)),(444,(eL 0)),(445,(eL 13)),(446,(.byte 406 (eL 0))),(447,(eL 48)),(448,(eL 49)),(449,(eL 50))],dk4,[],Qqb⟩
noncomputable def dg25:Tgt:=⟨[(443,(eL 1)),(444,(eL 0)),(445,(eL 13)),(446,(.byte 406 (eL 0))),(447,(eL 48)),(448,(eL 49)),(449,(eL 50))],dk4,[],Qqa⟩
noncomputable def dg26:Tgt:=⟨[(443,(eL 6)),(444,(eL 0)),(445,(eL 14)),(446,(.byte 406 (eL 0))),(447,(.byte 406 (eL 1))),(448,(eL 48)),(449,(eL 49))],dk4,[],Qqc⟩
noncomputable def dg27:Tgt:=⟨[(443,(eL 6)),(444,(eL 0)),(445,(eL 14)),(446,(.byte 406 (eL 0))),(447,(.byte 406 (eL 1))),(448,(eL 48)),(449,(eL 49))],dk4,[],Qqb⟩
noncomputable def dg28:Tgt:=⟨[(443,(eL 6)),(444,(eL 0)),(445,(eL 14)),(446,(.byte 406 (eL 0))),(447,(.byte 406 (eL 1))),(448,(eL 48)),(449,(eL 49))],dk4,[],Qqa⟩
noncomputable def dg29:Tgt:=⟨[(443,(eL 17)),(444,(eL 0)),(445,(eL 14)),(446,(.byte 406 (eL 0))),(447,(.byte 406 (eL 1))),(448,(eL 48)),(449,(eL 49))],dk4,[],Qqc⟩
noncomputable def dg30:Tgt:=⟨[(443,(eL 17)),(444,(eL 0)),(445,(eL 14)),(446,(.byte 406 (eL 0))),(447,(.byte 406 (eL 1))),(448,(eL 48)),(449,(eL 49))],dk4,[],Qqb⟩
noncomputable def dg31:Tgt:=⟨[(443,(eL 17)),(444,(eL 0)),(445,(eL 14)),(446,(.byte 406 (eL 0))),(447,(.byte 406 (eL 1))),(448,(eL 48)),(449,(eL 49))],dk4,[],Qqa⟩
noncomputable def dg32:Tgt:=⟨[(443,(eL 1)),(444,(eL 0)),(445,(eL 14)),(446,(.byte 406 (eL 0))),(447,(.byte 406 (eL 1))),(448,(eL 48)),(449,(eL 49))],dk4,[],Qqc⟩
noncomputable def dg33:Tgt:=⟨[(443,(eL 1)),(444,(eL 0)),(445,(eL 14)),(446,(.byte 406 (eL 0))),(447,(.byte 406 (eL 1))),(448,(eL 48)),(449,(eL 49))],dk4,[],Qqb⟩
noncomputable def dg34:Tgt:=⟨[(443,(eL 1)),(444,(eL 0)),(445,(eL 14)),(446,(.byte 406 (eL 0))),(447,(.byte 406 (eL 1))),(448,(eL 48)),(449,(eL 49))],dk4,[],Qqa⟩
noncomputable def dg35:Tgt:=⟨[(443,(eL 6)),(444,(eL 0)),(445,(eL 15)),(446,(.byte 406 (eL 0))),(447,(.byte 406 (eL 1))),(448,(.byte 406 (eL 2))),(449,(eL 48))],dk4,[],Qqc⟩
noncomputable def dg36:Tgt:=⟨[(443,(eL 6)),(444,(eL 0)),(445,(eL 15)),(446,(.byte 406 (eL 0))),(447,(.byte 406 (eL 1))),(448,(.byte 406 (eL 2))),(449,(eL 48))],dk4,[],Qqb⟩
noncomputable def dg37:Tgt:=⟨[(443,(eL 6)),(444,(eL 0)),(445,(eL 15)),(446,(.byte 406 (eL 0))),(447,(.byte 406 (eL 1))),(448,(.byte 406 (eL 2))),(449,(eL 48))],dk4,[],Qqa⟩
noncomputable def dg38:Tgt:=⟨[(443,(eL 17)),(444,(eL 0)),(445,(eL 15)),(446,(.byte 406 (eL 0))),(447,(.byte 406 (eL 1))),(448,(.byte 406 (eL 2))),(449,(eL 48))],dk4,[],Qqc⟩
noncomputable def dg39:Tgt:=⟨[(443,(eL 17)),(444,(eL 0)),(445,(eL 15)),(446,(.byte 406 (eL 0))),(447,(.byte 406 (eL 1))),(448,(.byte 406 (eL 2))),(449,(eL 48))],dk4,[],Qqb⟩
noncomputable def dg40:Tgt:=⟨[(443,(eL 17)),(444,(eL 0)),(445,(eL 15)),(446,(.byte 406 (eL 0))),(447,(.byte 406 (eL 1))),(448,(.byte 406 (eL 2))),(449,(eL 48))],dk4,[],Qqa⟩
noncomputable def dg41:Tgt:=⟨[(443,(eL 1)),(444,(eL 0)),(445,(eL 15)),(446,(.byte 406 (eL 0))),(447,(.byte 406 (eL 1))),(448,(.byte 406 (eL 2))),(449,(eL 48))],dk4,[],Qqc⟩
noncomputable def dg42:Tgt:=⟨[(443,(eL 1)),(444,(eL 0)),(445,(eL 15)),(446,(.byte 406 (eL 0))),(447,(.byte 406 (eL 1))),(448,(.byte 406 (eL 2))),(449,(eL 48))],dk4,[],Qqb⟩
noncomputable def dg43:Tgt:=⟨[(443,(eL 1)),(444,(eL 0)),(445,(eL 15)),(446,(.byte 406 (eL 0))),(447,(.byte 406 (eL 1))),(448,(.byte 406 (eL 2))),(449,(eL 48))],dk4,[],Qqa⟩
noncomputable def dg44:Tgt:=⟨[(443,(eL 6)),(444,dy1),(445,dy2),(446,(.byte 406 (eL 0))),(447,(.byte 406 (eL 1))),(448,(.byte 406 (eL 2))),(449,(.byte 406 (eL 3)))],dk4,[],Qqc⟩
noncomputable def dg45:Tgt:=⟨[(443,(eL 6)),(444,dy1),(445,dy2),(446,(.byte 406 (eL 0))),(447,(.byte 406 (eL 1))),(448,(.byte 406 (eL 2))),(449,(.byte 406 (eL 3)))],dk4,[],Qqb⟩
noncomputable def dg46:Tgt:=⟨[(443,(eL 6)),(444,dy1),(445,dy2),(446,(.byte 406 (eL 0))),(447,(.byte 406 (eL 1))),(448,(.byte 406 (eL 2))),(449,(.byte 406 (eL 3)))],dk4,[],Qqa⟩
noncomputable def dg47:Tgt:=⟨[(443,(eL 17)),(444,dy1),(445,dy2),(446,(.byte 406 (eL 0))),(447,(.byte 406 (eL 1))),(448,(.byte 406 (eL 2))),(449,(.byte 406 (eL 3)))],dk4,[],Qqc⟩
noncomputable def dg48:Tgt:=⟨[(443,(eL 17)),(444,dy1),(445,dy2),(446,(.byte 406 (eL 0))),(447,(.byte 406 (eL 1))),(448,(.byte 406 (eL 2))),(449,(.byte 406 (eL 3)))],dk4,[],Qqb⟩
noncomputable def dg49:Tgt:=⟨[(443,(eL 17)),(444,dy1),(445,dy2),(446,(.byte 406 (eL 0))),(447,(.byte 406 (eL 1))),(448,(.byte 406 (eL 2))),(449,(.byte 406 (eL 3)))],dk4,[],Qqa⟩
noncomputable def dg50:Tgt:=⟨[(443,(eL 1)),(444,dy1),(445,dy2),(446,(.byte 406 (eL 0))),(447,(.byte 406 (eL 1))),(448,(.byte 406 (eL 2))),(449,(.byte 406 (eL 3)))],dk4,[],Qqc⟩
noncomputable def dg51:Tgt:=⟨[(443,(eL 1)),(444,dy1),(445,dy2),(446,(.byte 406 (eL 0))),(447,(.byte 406 (eL 1))),(448,(.byte 406 (eL 2))),(449,(.byte 406 (eL 3)))],dk4,[],Qqb⟩
noncomputable def dg52:Tgt:=⟨[(443,(eL 1)),(444,dy1),(445,dy2),(446,(.byte 406 (eL 0))),(447,(.byte 406 (eL 1))),(448,(.byte 406 (eL 2))),(449,(.byte 406 (eL 3)))],dk4,[],Qqa⟩
noncomputable def dg53:Tgt:=⟨[(443,(eL 6)),(444,Qqe),(445,Qqd),(446,(.byte 406 (eL 0))),(447,(.byte 406 (eL 1))),(448,(.byte 406 (eL 2))),(449,(.byte 406 (eL 3)))],dk4,[],Qqc⟩
noncomputable def dg54:Tgt:=⟨[(443,(eL 6)),(444,Qqe),(445,Qqd),(446,(.byte 406 (eL 0))),(447,(.byte 406 (eL 1))),(448,(.byte 406 (eL 2))),(449,(.byte 406 (eL 3)))],dk4,[],Qqb⟩
noncomputable def dg55:Tgt:=⟨[(443,(eL 6)),(444,Qqe),(445,Qqd),(446,(.byte 406 (eL 0))),(447,(.byte 406 (eL 1))),(448,(.byte 406 (eL 2))),(449,(.byte 406 (eL 3)))],dk4,[],Qqa⟩
noncomputable def dg56:Tgt:=⟨[(443,(eL 17)),(444,Qqe),(445,Qqd),(446,(.byte 406 (eL 0))),(447,(.byte 406 (eL 1))),(448,(.byte 406 (eL 2))),(449,(.byte 406 (eL 3)))],dk4,[],Qqc⟩
noncomputable def dg57:Tgt:=⟨[(443,(eL 17)),(444,Qqe),(445,Qqd),(446,(.byte 406 (eL 0))),(447,(.byte 406 (eL 1))),(448,(.byte 406 (eL 2))),(449,(.byte 406 (eL 3)))],dk4,[],Qqb⟩
noncomputable def dg58:Tgt:=⟨[(443,(eL 17)),(444,Qqe),(445,Qqd),(446,(.byte 406 (eL 0))),(447,(.byte 406 (eL 1))),(448,(.byte 406 (eL 2))),(449,(.byte 406 (eL 3)))],dk4,[],Qqa⟩
noncomputable def dg59:Tgt:=⟨[(443,(eL 1)),(444,Qqe),(445,Qqd),(446,(.byte 406 (eL 0))),(447,(.byte 406 (eL 1))),(448,(.byte 406 (eL 2))),(449,(.byte 406 (eL 3)))],dk4,[],Qqc⟩
noncomputable def dg60:Tgt:=⟨[(443,(eL 1)),(444,Qqe),(445,Qqd),(446,(.byte 406 (eL 0))),(447,(.byte 406 (eL 1))),(448,(.byte 406 (eL 2))),(449,(.byte 406 (eL 3)))],dk4,[],Qqb⟩
noncomputable def dg61:Tgt:=⟨[(443,(eL 1)),(444,Qqe),(445,Qqd),(446,(.byte 406 (eL 0))),(447,(.byte 406 (eL 1))),(448,(.byte 406 (eL 2))),(449,(.byte 406 (eL 3)))],dk4,[],Qqa⟩
noncomputable def dg62:Tgt:=⟨[],dk5,[],Z6v⟩
noncomputable def Qyj:Tgt:=⟨[(396,dy7)],dk0,[],Zat⟩
noncomputable def Qry:Tgt:=⟨[(396,dy7)],dk0,[],Zas⟩
noncomputable def Qr2:Tgt:=⟨[(396,dy7),(397,(.var 396))],dk0,[],Zak⟩
noncomputable def dg66:Tgt:=⟨[],dk6,[],Z4f⟩
noncomputable def dg67:Tgt:=⟨[],dk7,[],Qwk⟩
noncomputable def dg68:Tgt:=⟨[],dk8,[],Z4e⟩
noncomputable def dg69:Tgt:=⟨[(443,(eL 6)),(444,(eL 0)),(445,(eL 12)),(446,(eL 48)),(447,(eL 49)),(448,(eL 50)),(449,(eL 51))],dk9,[],Qq9⟩
noncomputable def dg70:Tgt:=⟨[(443,(eL 6)),(444,(eL 0)),(445,(eL 12)),(446,(eL 48)),(447,(eL 49)),(448,(eL 50)),(449,(eL 51))],dk9,[],Qq8⟩
noncomputable def dg71:Tgt:=⟨[(443,(eL 6)),(444,(eL 0)),(445,(eL 12)),(446,(eL 48)),(447,(eL 49)),(448,(eL 50)),(449,(eL 51))],dk9,[],Qq7⟩
noncomputable def dg72:Tgt:=⟨[(443,(eL 17)),(444,(eL 0)),(445,(eL 12)),(446,(eL 48)),(447,(eL 49)),(448,(eL 50)),(449,(eL 51))],dk9,[],Qq9⟩
noncomputable def dg73:Tgt:=⟨[(443,(eL 17)),(444,(eL 0)),(445,(eL 12)),(446,(eL 48)),(447,(eL 49)),(448,(eL 50)),(449,(eL 51))],dk9,[],Qq8⟩
noncomputable def dg74:Tgt:=⟨[(443,(eL 17)),(444,(eL 0)),(445,(eL 12)),(446,(eL 48)),(447,(eL 49)),(448,(eL 50)),(449,(eL 51))],dk9,[],Qq7⟩
noncomputable def dg75:Tgt:=⟨[(443,(eL 1)),(444,(eL 0)),(445,(eL 12)),(446,(eL 48)),(447,(eL 49)),(448,(eL 50)),(449,(eL 51))],dk9,[],Qq9⟩
noncomputable def dg76:Tgt:=⟨[(443,(eL 1)),(444,(eL 0)),(445,(eL 12)),(446,(eL 48)),(447,(eL 49)),(448,(eL 50)),(449,(eL 51))],dk9,[],Qq8⟩
noncomputable def dg77:Tgt:=⟨[(443,(eL 1)),(444,(eL 0)),(445,(eL 12)),(446,(eL 48)),(447,(eL 49)),(448,(eL 50)),(449,(eL 51))],dk9,[],Qq7⟩
noncomputable def dg78:Tgt:=⟨[(443,(eL 6)),(444,(eL 0)),(445,(eL 13)),(446,(.byte 406 (eL 0))),(447,(eL 48)),(448,(eL 49)),(449,(eL 50))],dk9,[],Qq9⟩
noncomputable def dg79:Tgt:=⟨[(443,(eL 6)),(444,(eL 0)),(445,(eL 13)),(446,(.byte 406 (eL 0))),(447,(eL 48)),(448,(eL 49)),(449,(eL 50))],dk9,[],Qq8⟩
noncomputable def dg80:Tgt:=⟨[(443,(eL 6)),(444,(eL 0)),(445,(eL 13)),(446,(.byte 406 (eL 0))),(447,(eL 48)),(448,(eL 49)),(449,(eL 50))],dk9,[],Qq7⟩
noncomputable def dg81:Tgt:=⟨[(443,(eL 17)),(444,(eL 0)),(445,(eL 13)),(446,(.byte 406 (eL 0))),(447,(eL 48)),(448,(eL 49)),(449,(eL 50))],dk9,[],Qq9⟩
noncomputable def dg82:Tgt:=⟨[(443,(eL 17)),(444,(eL 0)),(445,(eL 13)),(446,(.byte 406 (eL 0))),(447,(eL 48)),(448,(eL 49)),(449,(eL 50))],dk9,[],Qq8⟩
noncomputable def dg83:Tgt:=⟨[(443,(eL 17)),(444,(eL 0)),(445,(eL 13)),(446,(.byte 406 (eL 0))),(447,(eL 48)),(448,(eL 49)),(449,(eL 50))],dk9,[],Qq7⟩
noncomputable def dg84:Tgt:=⟨[(443,(eL 1)),(444,(eL 0)),(445,(eL 13)),(446,(.byte 406 (eL 0))),(447,(eL 48)),(448,(eL 49)),(449,(eL 50))],dk9,[],Qq9⟩
noncomputable def dg85:Tgt:=⟨[(443,(eL 1)),(444,(eL 0)),(445,(eL 13)),(446,(.byte 406 (eL 0))),(447,(eL 48)),(448,(eL 49)),(449,(eL 50))],dk9,[],Qq8⟩
noncomputable def dg86:Tgt:=⟨[(443,(eL 1)),(444,(eL 0)),(445,(eL 13)),(446,(.byte 406 (eL 0))),(447,(eL 48)),(448,(eL 49)),(449,(eL 50))],dk9,[],Qq7⟩
noncomputable def dg87:Tgt:=⟨[(443,(eL 6)),(444,(eL 0)),(445,(eL 14)),(446,(.byte 406 (eL 0))),(447,(.byte 406 (eL 1))),(448,(eL 48)),(449,(eL 49))],dk9,[],Qq9⟩
noncomputable def dg88:Tgt:=⟨[(443,(eL 6)),(444,(eL 0)),(445,(eL 14)),(446,(.byte 406 (eL 0))),(447,(.byte 406 (eL 1))),(448,(eL 48)),(449,(eL 49))],dk9,[],Qq8⟩
noncomputable def dg89:Tgt:=⟨[(443,(eL 6)),(444,(eL 0)),(445,(eL 14)),(446,(.byte 406 (eL 0))),(447,(.byte 406 (eL 1))),(448,(eL 48)),(449,(eL 49))],dk9,[],Qq7⟩
noncomputable def dg90:Tgt:=⟨[(443,(eL 17)),(444,(eL 0)),(445,(eL 14)),(446,(.byte 406 (eL 0))),(447,(.byte 406 (eL 1))),(448,(eL 48)),(449,(eL 49))],dk9,[],Qq9⟩
noncomputable def dg91:Tgt:=⟨[(443,(eL 17)),(444,(eL 0)),(445,(eL 14)),(446,(.byte 406 (eL 0))),(447,(.byte 406 (eL 1))),(448,(eL 48)),(449,(eL 49))],dk9,[],Qq8⟩
noncomputable def dg92:Tgt:=⟨[(443,(eL 17)),(444,(eL 0)),(445,(eL 14)),(446,(.byte 406 (eL 0))),(447,(.byte 406 (eL 1))),(448,(eL 48)),(449,(eL 49))],dk9,[],Qq7⟩
noncomputable def dg93:Tgt:=⟨[(443,(eL 1)),(444,(eL 0)),(445,(eL 14)),(446,(.byte 406 (eL 0))),(447,(.byte 406 (eL 1))),(448,(eL 48)),(449,(eL 49))],dk9,[],Qq9⟩
noncomputable def dg94:Tgt:=⟨[(443,(eL 1)),(444,(eL 0)),(445,(eL 14)),(446,(.byte 406 (eL 0))),(447,(.byte 406 (eL 1))),(448,(eL 48)),(449,(eL 49))],dk9,[],Qq8⟩
noncomputable def dg95:Tgt:=⟨[(443,(eL 1)),(444,(eL 0)),(445,(eL 14)),(446,(.byte 406 (eL 0))),(447,(.byte 406 (eL 1))),(448,(eL 48)),(449,(eL 49))],dk9,[],Qq7⟩
noncomputable def dg96:Tgt:=⟨[(443,(eL 6)),(444,(eL 0)),(445,(eL 15)),(446,(.byte 406 (eL 0))),(447,(.byte 406 (eL 1))),(448,(.byte 406 (eL 2))),(449,(eL 48))],dk9,[],Qq9⟩
noncomputable def dg97:Tgt:=⟨[(443,(eL 6)),(444,(eL 0)),(445,(eL 15)),(446,(.byte 406 (eL 0))),(447,(.byte 406 (eL 1))),(448,(.byte 406 (eL 2))),(449,(eL 48))],dk9,[],Qq8⟩
noncomputable def dg98:Tgt:=⟨[(443,(eL 6)),(444,(eL 0)),(445,(eL 15)),(446,(.byte 406 (eL 0))),(447,(.byte 406 (eL 1))),(448,(.byte 406 (eL 2))),(449,(eL 48))],dk9,[],Qq7⟩
noncomputable def dg99:Tgt:=⟨[(443,(eL 17)),(444,(eL 0)),(445,(eL 15)),(446,(.byte 406 (eL 0))),(447,(.byte 406 (eL 1))),(448,(.byte 406 (eL 2))),(449,(eL 48))],dk9,[],Qq9⟩
noncomputable def dg100:Tgt:=⟨[(443,(eL 17)),(444,(eL 0)),(445,(eL 15)),(446,(.byte 406 (eL 0))),(447,(.byte 406 (eL 1))),(448,(.byte 406 (eL 2))),(449,(eL 48))],dk9,[],Qq8⟩
noncomputable def dg101:Tgt:=⟨[(443,(eL 17)),(444,(eL 0)),(445,(eL 15)),(446,(.byte 406 (eL 0))),(447,(.byte 406 (eL 1))),(448,(.byte 406 (eL 2))),(449,(eL 48))],dk9,[],Qq7⟩
noncomputable def dg102:Tgt:=⟨[(443,(eL 1)),(444,(eL 0)),(445,(eL 15)),(446,(.byte 406 (eL 0))),(447,(.byte 406 (eL 1))),(448,(.byte 406 (eL 2))),(449,(eL 48))],dk9,[],Qq9⟩
noncomputable def dg103:Tgt:=⟨[(443,(eL 1)),(444,(eL 0)),(445,(eL 15)),(446,(.byte 406 (eL 0))),(447,(.byte 406 (eL 1))),(448,(.byte 406 (eL 2))),(449,(eL 48))],dk9,[],Qq8⟩
noncomputable def dg104:Tgt:=⟨[(443,(eL 1)),(444,(eL 0)),(445,(eL 15)),(446,(.byte 406 (eL 0))),(447,(.byte 406 (eL 1))),(448,(.byte 406 (eL 2))),(449,(eL 48))],dk9,[],Qq7⟩
noncomputable def dg105:Tgt:=⟨[(443,(eL 6)),(444,dy1),(445,dy2),(446,(.byte 406 (eL 0))),(447,(.byte 406 (eL 1))),(448,(.byte 406 (eL 2))),(449,(.byte 406 (eL 3)))],dk9,[],Qq9⟩
noncomputable def dg106:Tgt:=⟨[(443,(eL 6)),(444,dy1),(445,dy2),(446,(.byte 406 (eL 0))),(447,(.byte 406 (eL 1))),(448,(.byte 406 (eL 2))),(449,(.byte 406 (eL 3)))],dk9,[],Qq8⟩
noncomputable def dg107:Tgt:=⟨[(443,(eL 6)),(444,dy1),(445,dy2),(446,(.byte 406 (eL 0))),(447,(.byte 406 (eL 1))),(448,(.byte 406 (eL 2))),(449,(.byte 406 (eL 3)))],dk9,[],Qq7⟩
noncomputable def dg108:Tgt:=⟨[(443,(eL 17)),(444,dy1),(445,dy2),(446,(.byte 406 (eL 0))),(447,(.byte 406 (eL 1))),(448,(.byte 406 (eL 2))),(449,(.byte 406 (eL 3)))],dk9,[],Qq9⟩
noncomputable def dg109:Tgt:=⟨[(443,(eL 17)),(444,dy1),(445,dy2),(446,(.byte 406 (eL 0))),(447,(.byte 406 (eL 1))),(448,(.byte 406 (eL 2))),(449,(.byte 406 (eL 3)))],dk9,[],Qq8⟩
noncomputable def dg110:Tgt:=⟨[(443,(eL 17)),(444,dy1),(445,dy2),(446,(.byte 406 (eL 0))),(447,(.byte 406 (eL 1))),(448,(.byte 406 (eL 2))),(449,(.byte 406 (eL 3)))],dk9,[],Qq7⟩
noncomputable def dg111:Tgt:=⟨[(443,(eL 1)),(444,dy1),(445,dy2),(446,(.byte 406 (eL 0))),(447,(.byte 406 (eL 1))),(448,(.byte 406 (eL 2))),(449,(.byte 406 (eL 3)))],dk9,[],Qq9⟩
noncomputable def dg112:Tgt:=⟨[(443,(eL 1)),(444,dy1),(445,dy2),(446,(.byte 406 (eL 0))),(447,(.byte 406 (eL 1))),(448,(.byte 406 (eL 2))),(449,(.byte 406 (eL 3)))],dk9,[],Qq8⟩
noncomputable def dg113:Tgt:=⟨[(443,(eL 1)),(444,dy1),(445,dy2),(446,(.byte 406 (eL 0))),(447,(.byte 406 (eL 1))),(448,(.byte 406 (eL 2))),(449,(.byte 406 (eL 3)))],dk9,[],Qq7⟩
noncomputable def dg114:Tgt:=⟨[(443,(eL 6)),(444,Qqe),(445,Qqd),(446,(.byte 406 (eL 0))),(447,(.byte 406 (eL 1))),(448,(.byte 406 (eL 2))),(449,(.byte 406 (eL 3)))],dk9,[],Qq9⟩
noncomputable def dg115:Tgt:=⟨[(443,(eL 6)),(444,Qqe),(445,Qqd),(446,(.byte 406 (eL 0))),(447,(.byte 406 (eL 1))),(448,(.byte 406 (eL 2))),(449,(.byte 406 (eL 3)))],dk9,[],Qq8⟩
noncomputable def dg116:Tgt:=⟨[(443,(eL 6)),(444,Qqe),(445,Qqd),(446,(.byte 406 (eL 0))),(447,(.byte 406 (eL 1))),(448,(.byte 406 (eL 2))),(449,(.byte 406 (eL 3)))],dk9,[],Qq7⟩
noncomputable def dg117:Tgt:=⟨[(443,(eL 17)),(444,Qqe),(445,Qqd),(446,(.byte 406 (eL 0))),(447,(.byte 406 (eL 1))),(448,(.byte 406 (eL 2))),(449,(.byte 406 (eL 3)))],dk9,[],Qq9⟩
noncomputable def dg118:Tgt:=⟨[(443,(eL 17)),(444,Qqe),(445,Qqd),(446,(.byte 406 (eL 0))),(447,(.byte 406 (eL 1))),(448,(.byte 406 (eL 2))),(449,(.byte 406 (eL 3)))],dk9,[],Qq8⟩
noncomputable def dg119:Tgt:=⟨[(443,(eL 17)),(444,Qqe),(445,Qqd),(446,(.byte 406 (eL 0))),(447,(.byte 406 (eL 1))),(448,(.byte 406 (eL 2))),(449,(.byte 406 (eL 3)))],dk9,[],Qq7⟩
noncomputable def dg120:Tgt:=⟨[(443,(eL 1)),(444,Qqe),(445,Qqd),(446,(.byte 406 (eL 0))),(447,(.byte 406 (eL 1))),(448,(.byte 406 (eL 2))),(449,(.byte 406 (eL 3)))],dk9,[],Qq9⟩
noncomputable def dg121:Tgt:=⟨[(443,(eL 1)),(444,Qqe),(445,Qqd),(446,(.byte 406 (eL 0))),(447,(.byte 406 (eL 1))),(448,(.byte 406 (eL 2))),(449,(.byte 406 (eL 3)))],dk9,[],Qq8⟩
noncomputable def dg122:Tgt:=⟨[(443,(eL 1)),(444,Qqe),(445,Qqd),(446,(.byte 406 (eL 0))),(447,(.byte 406 (eL 1))),(448,(.byte 406 (eL 2))),(449,(.byte 406 (eL 3)))],dk9,[],Qq7⟩
noncomputable def dg123:Tgt:=⟨[],dk10,[],Z6u⟩
noncomputable def Qrv:Tgt:=⟨[(396,dy7)],dk11,[],Zak⟩
noncomputable def dg125:Tgt:=⟨[],dk12,[],Z4d⟩
noncomputable def dg126:Tgt:=⟨[],dk13,[],Qwj⟩
noncomputable def dg127:Tgt:=⟨[],dk14,[],Z4c⟩
noncomputable def dg128:Tgt:=⟨[(443,(eL 6)),(444,(eL 0)),(445,(eL 12)),(446,(eL 48)),(447,(eL 49)),(448,(eL 50)),(449,(eL 51))],Qqp,[],Qq6⟩
noncomputable def dg129:Tgt:=⟨[(443,(eL 6)),(444,(eL 0)),(445,(eL 12)),(446,(eL 48)),(447,(eL 49)),(448,(eL 50)),(449,(eL 51))],Qqp,[],Qq5⟩
noncomputable def dg130:Tgt:=⟨[(443,(eL 6)),(444,(eL 0)),(445,(eL 12)),(446,(eL 48)),(447,(eL 49)),(448,(eL 50)),(449,(eL 51))],Qqp,[],Qq4⟩
noncomputable def dg131:Tgt:=⟨[(443,(eL 17)),(444,(eL 0)),(445,(eL 12)),(446,(eL 48)),(447,(eL 49)),(448,(eL 50)),(449,(eL 51))],Qqp,[],Qq6⟩
noncomputable def dg132:Tgt:=⟨[(443,(eL 17)),(444,(eL 0)),(445,(eL 12)),(446,(eL 48)),(447,(eL 49)),(448,(eL 50)),(449,(eL 51))],Qqp,[],Qq5⟩
noncomputable def dg133:Tgt:=⟨[(443,(eL 17)),(444,(eL 0)),(445,(eL 12)),(446,(eL 48)),(447,(eL 49)),(448,(eL 50)),(449,(eL 51))],Qqp,[],Qq4⟩
noncomputable def dg134:Tgt:=⟨[(443,(eL 1)),(444,(eL 0)),(445,(eL 12)),(446,(eL 48)),(447,(eL 49)),(448,(eL 50)),(449,(eL 51))],Qqp,[],Qq6⟩
noncomputable def dg135:Tgt:=⟨[(443,(eL 1)),(444,(eL 0)),(445,(eL 12)),(446,(eL 48)),(447,(eL 49)),(448,(eL 50)),(449,(eL 51))],Qqp,[],Qq5⟩
noncomputable def dg136:Tgt:=⟨[(443,(eL 1)),(444,(eL 0)),(445,(eL 12)),(446,(eL 48)),(447,(eL 49)),(448,(eL 50)),(449,(eL 51))],Qqp,[],Qq4⟩
noncomputable def dg137:Tgt:=⟨[(443,(eL 6)),(444,(eL 0)),(445,(eL 13)),(446,(.byte 406 (eL 0))),(447,(eL 48)),(448,(eL 49)),(449,(eL 50))],Qqp,[],Qq6⟩
noncomputable def dg138:Tgt:=⟨[(443,(eL 6)),(444,(eL 0)),(445,(eL 13)),(446,(.byte 406 (eL 0))),(447,(eL 48)),(448,(eL 49)),(449,(eL 50))],Qqp,[],Qq5⟩
noncomputable def dg139:Tgt:=⟨[(443,(eL 6)),(444,(eL 0)),(445,(eL 13)),(446,(.byte 406 (eL 0))),(447,(eL 48)),(448,(eL 49)),(449,(eL 50))],Qqp,[],Qq4⟩
noncomputable def dg140:Tgt:=⟨[(443,(eL 17)),(444,(eL 0)),(445,(eL 13)),(446,(.byte 406 (eL 0))),(447,(eL 48)),(448,(eL 49)),(449,(eL 50))],Qqp,[],Qq6⟩
noncomputable def dg141:Tgt:=⟨[(443,(eL 17)),(444,(eL 0)),(445,(eL 13)),(446,(.byte 406 (eL 0))),(447,(eL 48)),(448,(eL 49)),(449,(eL 50))],Qqp,[],Qq5⟩
noncomputable def dg142:Tgt:=⟨[(443,(eL 17)),(444,(eL 0)),(445,(eL 13)),(446,(.byte 406 (eL 0))),(447,(eL 48)),(448,(eL 49)),(449,(eL 50))],Qqp,[],Qq4⟩
noncomputable def dg143:Tgt:=⟨[(443,(eL 1)),(444,(eL 0)),(445,(eL 13)),(446,(.byte 406 (eL 0))),(447,(eL 48)),(448,(eL 49)),(449,(eL 50))],Qqp,[],Qq6⟩
noncomputable def dg144:Tgt:=⟨[(443,(eL 1)),(444,(eL 0)),(445,(eL 13)),(446,(.byte 406 (eL 0))),(447,(eL 48)),(448,(eL 49)),(449,(eL 50))],Qqp,[],Qq5⟩
noncomputable def dg145:Tgt:=⟨[(443,(eL 1)),(444,(eL 0)),(445,(eL 13)),(446,(.byte 406 (eL 0))),(447,(eL 48)),(448,(eL 49)),(449,(eL 50))],Qqp,[],Qq4⟩
noncomputable def dg146:Tgt:=⟨[(443,(eL 6)),(444,(eL 0)),(445,(eL 14)),(446,(.byte 406 (eL 0))),(447,(.byte 406 (eL 1))),(448,(eL 48)),(449,(eL 49))],Qqp,[],Qq6⟩
noncomputable def dg147:Tgt:=⟨[(443,(eL 6)),(444,(eL 0)),(445,(eL 14)),(446,(.byte 406 (eL 0))),(447,(.byte 406 (eL 1))),(448,(eL 48)),(449,(eL 49))],Qqp,[],Qq5⟩
noncomputable def dg148:Tgt:=⟨[(443,(eL 6)),(444,(eL 0)),(445,(eL 14)),(446,(.byte 406 (eL 0))),(447,(.byte 406 (eL 1))),(448,(eL 48)),(449,(eL 49))],Qqp,[],Qq4⟩
noncomputable def dg149:Tgt:=⟨[(443,(eL 17)),(444,(eL 0)),(445,(eL 14)),(446,(.byte 406 (eL 0))),(447,(.byte 406 (eL 1))),(448,(eL 48)),(449,(eL 49))],Qqp,[],Qq6⟩
noncomputable def dg150:Tgt:=⟨[(443,(eL 17)),(444,(eL 0)),(445,(eL 14)),(446,(.byte 406 (eL 0))),(447,(.byte 406 (eL 1))),(448,(eL 48)),(449,(eL 49))],Qqp,[],Qq5⟩
noncomputable def dg151:Tgt:=⟨[(443,(eL 17)),(444,(eL 0)),(445,(eL 14)),(446,(.byte 406 (eL 0))),(447,(.byte 406 (eL 1))),(448,(eL 48)),(449,(eL 49))],Qqp,[],Qq4⟩
noncomputable def dg152:Tgt:=⟨[(443,(eL 1)),(444,(eL 0)),(445,(eL 14)),(446,(.byte 406 (eL 0))),(447,(.byte 406 (eL 1))),(448,(eL 48)),(449,(eL 49))],Qqp,[],Qq6⟩
noncomputable def dg153:Tgt:=⟨[(443,(eL 1)),(444,(eL 0)),(445,(eL 14)),(446,(.byte 406 (eL 0))),(447,(.byte 406 (eL 1))),(448,(eL 48)),(449,(eL 49))],Qqp,[],Qq5⟩
noncomputable def dg154:Tgt:=⟨[(443,(eL 1)),(444,(eL 0)),(445,(eL 14)),(446,(.byte 406 (eL 0))),(447,(.byte 406 (eL 1))),(448,(eL 48)),(449,(eL 49))],Qqp,[],Qq4⟩
noncomputable def dg155:Tgt:=⟨[(443,(eL 6)),(444,(eL 0)),(445,(eL 15)),(446,(.byte 406 (eL 0))),(447,(.byte 406 (eL 1))),(448,(.byte 406 (eL 2))),(449,(eL 48))],Qqp,[],Qq6⟩
noncomputable def dg156:Tgt:=⟨[(443,(eL 6)),(444,(eL 0)),(445,(eL 15)),(446,(.byte 406 (eL 0))),(447,(.byte 406 (eL 1))),(448,(.byte 406 (eL 2))),(449,(eL 48))],Qqp,[],Qq5⟩
noncomputable def dg157:Tgt:=⟨[(443,(eL 6)),(444,(eL 0)),(445,(eL 15)),(446,(.byte 406 (eL 0))),(447,(.byte 406 (eL 1))),(448,(.byte 406 (eL 2))),(449,(eL 48))],Qqp,[],Qq4⟩
noncomputable def dg158:Tgt:=⟨[(443,(eL 17)),(444,(eL 0)),(445,(eL 15)),(446,(.byte 406 (eL 0))),(447,(.byte 406 (eL 1))),(448,(.byte 406 (eL 2))),(449,(eL 48))],Qqp,[],Qq6⟩
noncomputable def dg159:Tgt:=⟨[(443,(eL 17)),(444,(eL 0)),(445,(eL 15)),(446,(.byte 406 (eL 0))),(447,(.byte 406 (eL 1))),(448,(.byte 406 (eL 2))),(449,(eL 48))],Qqp,[],Qq5⟩
noncomputable def dg160:Tgt:=⟨[(443,(eL 17)),(444,(eL 0)),(445,(eL 15)),(446,(.byte 406 (eL 0))),(447,(.byte 406 (eL 1))),(448,(.byte 406 (eL 2))),(449,(eL 48))],Qqp,[],Qq4⟩
noncomputable def dg161:Tgt:=⟨[(443,(eL 1)),(444,(eL 0)),(445,(eL 15)),(446,(.byte 406 (eL 0))),(447,(.byte 406 (eL 1))),(448,(.byte 406 (eL 2))),(449,(eL 48))],Qqp,[],Qq6⟩
noncomputable def dg162:Tgt:=⟨[(443,(eL 1)),(444,(eL 0)),(445,(eL 15)),(446,(.byte 406 (eL 0))),(447,(.byte 406 (eL 1))),(448,(.byte 406 (eL 2))),(449,(eL 48))],Qqp,[],Qq5⟩
noncomputable def dg163:Tgt:=⟨[(443,(eL 1)),(444,(eL 0)),(445,(eL 15)),(446,(.byte 406 (eL 0))),(447,(.byte 406 (eL 1))),(448,(.byte 406 (eL 2))),(449,(eL 48))],Qqp,[],Qq4⟩
noncomputable def dg164:Tgt:=⟨[(443,(eL 6)),(444,dy1),(445,dy2),(446,(.byte 406 (eL 0))),(447,(.byte 406 (eL 1))),(448,(.byte 406 (eL 2))),(449,(.byte 406 (eL 3)))],Qqp,[],Qq6⟩
noncomputable def dg165:Tgt:=⟨[(443,(eL 6)),(444,dy1),(445,dy2),(446,(.byte 406 (eL 0))),(447,(.byte 406 (eL 1))),(448,(.byte 406 (eL 2))),(449,(.byte 406 (eL 3)))],Qqp,[],Qq5⟩
noncomputable def dg166:Tgt:=⟨[(443,(eL 6)),(444,dy1),(445,dy2),(446,(.byte 406 (eL 0))),(447,(.byte 406 (eL 1))),(448,(.byte 406 (eL 2))),(449,(.byte 406 (eL 3)))],Qqp,[],Qq4⟩
noncomputable def dg167:Tgt:=⟨[(443,(eL 17)),(444,dy1),(445,dy2),(446,(.byte 406 (eL 0))),(447,(.byte 406 (eL 1))),(448,(.byte 406 (eL 2))),(449,(.byte 406 (eL 3)))],Qqp,[],Qq6⟩
noncomputable def dg168:Tgt:=⟨[(443,(eL 17)),(444,dy1),(445,dy2),(446,(.byte 406 (eL 0))),(447,(.byte 406 (eL 1))),(448,(.byte 406 (eL 2))),(449,(.byte 406 (eL 3)))],Qqp,[],Qq5⟩
noncomputable def dg169:Tgt:=⟨[(443,(eL 17)),(444,dy1),(445,dy2),(446,(.byte 406 (eL 0))),(447,(.byte 406 (eL 1))),(448,(.byte 406 (eL 2))),(449,(.byte 406 (eL 3)))],Qqp,[],Qq4⟩
noncomputable def dg170:Tgt:=⟨[(443,(eL 1)),(444,dy1),(445,dy2),(446,(.byte 406 (eL 0))),(447,(.byte 406 (eL 1))),(448,(.byte 406 (eL 2))),(449,(.byte 406 (eL 3)))],Qqp,[],Qq6⟩
noncomputable def dg171:Tgt:=⟨[(443,(eL 1)),(444,dy1),(445,dy2),(446,(.byte 406 (eL 0))),(447,(.byte 406 (eL 1))),(448,(.byte 406 (eL 2))),(449,(.byte 406 (eL 3)))],Qqp,[],Qq5⟩
noncomputable def dg172:Tgt:=⟨[(443,(eL 1)),(444,dy1),(445,dy2),(446,(.byte 406 (eL 0))),(447,(.byte 406 (eL 1))),(448,(.byte 406 (eL 2))),(449,(.byte 406 (eL 3)))],Qqp,[],Qq4⟩
noncomputable def dg173:Tgt:=⟨[(443,(eL 6)),(444,Qqe),(445,Qqd),(446,(.byte 406 (eL 0))),(447,(.byte 406 (eL 1))),(448,(.byte 406 (eL 2))),(449,(.byte 406 (eL 3)))],Qqp,[],Qq6⟩
noncomputable def dg174:Tgt:=⟨[(443,(eL 6)),(444,Qqe),(445,Qqd),(446,(.byte 406 (eL 0))),(447,(.byte 406 (eL 1))),(448,(.byte 406 (eL 2))),(449,(.byte 406 (eL 3)))],Qqp,[],Qq5⟩
noncomputable def dg175:Tgt:=⟨[(443,(eL 6)),(444,Qqe),(445,Qqd),(446,(.byte 406 (eL 0))),(447,(.byte 406 (eL 1))),(448,(.byte 406 (eL 2))),(449,(.byte 406 (eL 3)))],Qqp,[],Qq4⟩
noncomputable def dg176:Tgt:=⟨[(443,(eL 17)),(444,Qqe),(445,Qqd),(446,(.byte 406 (eL 0))),(447,(.byte 406 (eL 1))),(448,(.byte 406 (eL 2))),(449,(.byte 406 (eL 3)))],Qqp,[],Qq6⟩
noncomputable def dg177:Tgt:=⟨[(443,(eL 17)),(444,Qqe),(445,Qqd),(446,(.byte 406 (eL 0))),(447,(.byte 406 (eL 1))),(448,(.byte 406 (eL 2))),(449,(.byte 406 (eL 3)))],Qqp,[],Qq5⟩
noncomputable def dg178:Tgt:=⟨[(443,(eL 17)),(444,Qqe),(445,Qqd),(446,(.byte 406 (eL 0))),(447,(.byte 406 (eL 1))),(448,(.byte 406 (eL 2))),(449,(.byte 406 (eL 3)))],Qqp,[],Qq4⟩
noncomputable def dg179:Tgt:=⟨[(443,(eL 1)),(444,Qqe),(445,Qqd),(446,(.byte 406 (eL 0))),(447,(.byte 406 (eL 1))),(448,(.byte 406 (eL 2))),(449,(.byte 406 (eL 3)))],Qqp,[],Qq6⟩
noncomputable def dg180:Tgt:=⟨[(443,(eL 1)),(444,Qqe),(445,Qqd),(446,(.byte 406 (eL 0))),(447,(.byte 406 (eL 1))),(448,(.byte 406 (eL 2))),(449,(.byte 406 (eL 3)))],Qqp,[],Qq5⟩
noncomputable def dg181:Tgt:=⟨[(443,(eL 1)),(444,Qqe),(445,Qqd),(446,(.byte 406 (eL 0))),(447,(.byte 406 (eL 1))),(448,(.byte 406 (eL 2))),(449,(.byte 406 (eL 3)))],Qqp,[],Qq4⟩
noncomputable def dg182:Tgt:=⟨[],dk5,[],Z6t⟩
noncomputable def dg183:Tgt:=⟨[],dk6,[],Z4b⟩
noncomputable def dg184:Tgt:=⟨[],dk7,[],Qwi⟩
noncomputable def dg185:Tgt:=⟨[],dk8,[],Z4a⟩
noncomputable def dg186:Tgt:=⟨[(443,(eL 6)),(444,(eL 0)),(445,(eL 12)),(446,(eL 48)),(447,(eL 49)),(448,(eL 50)),(449,(eL 51))],dk9,[],Qq3⟩
noncomputable def dg187:Tgt:=⟨[(443,(eL 6)),(444,(eL 0)),(445,(eL 12)),(446,(eL 48)),(447,(eL 49)),(448,(eL 50)),(449,(eL 51))],dk9,[],Qq2⟩
noncomputable def dg188:Tgt:=⟨[(443,(eL 6)),(444,(eL 0)),(445,(eL 12)),(446,(eL 48)),(447,(eL 49)),(448,(eL 50)),(449,(eL 51))],dk9,[],Qq1⟩
noncomputable def dg189:Tgt:=⟨[(443,(eL 17)),(444,(eL 0)),(445,(eL 12)),(446,(eL 48)),(447,(eL 49)),(448,(eL 50)),(449,(eL 51))],dk9,[],Qq3⟩
noncomputable def dg190:Tgt:=⟨[(443,(eL 17)),(444,(eL 0)),(445,(eL 12)),(446,(eL 48)),(447,(eL 49)),(448,(eL 50)),(449,(eL 51))],dk9,[],Qq2⟩
noncomputable def dg191:Tgt:=⟨[(443,(eL 17)),(444,(eL 0)),(445,(eL 12)),(446,(eL 48)),(447,(eL 49)),(448,(eL 50)),(449,(eL 51))],dk9,[],Qq1⟩
noncomputable def dg192:Tgt:=⟨[(443,(eL 1)),(444,(eL 0)),(445,(eL 12)),(446,(eL 48)),(447,(eL 49)),(448,(eL 50)),(449,(eL 51))],dk9,[],Qq3⟩
noncomputable def dg193:Tgt:=⟨[(443,(eL 1)),(444,(eL 0)),(445,(eL 12)),(446,(eL 48)),(447,(eL 49)),(448,(eL 50)),(449,(eL 51))],dk9,[],Qq2⟩
noncomputable def dg194:Tgt:=⟨[(443,(eL 1)),(444,(eL 0)),(445,(eL 12)),(446,(eL 48)),(447,(eL 49)),(448,(eL 50)),(449,(eL 51))],dk9,[],Qq1⟩
noncomputable def dg195:Tgt:=⟨[(443,(eL 6)),(444,(eL 0)),(445,(eL 13)),(446,(.byte 406 (eL 0))),(447,(eL 48)),(448,(eL 49)),(449,(eL 50))],dk9,[],Qq3⟩
noncomputable def dg196:Tgt:=⟨[(443,(eL 6)),(444,(eL 0)),(445,(eL 13)),(446,(.byte 406 (eL 0))),(447,(eL 48)),(448,(eL 49)),(449,(eL 50))],dk9,[],Qq2⟩
noncomputable def dg197:Tgt:=⟨[(443,(eL 6)),(444,(eL 0)),(445,(eL 13)),(446,(.byte 406 (eL 0))),(447,(eL 48)),(448,(eL 49)),(449,(eL 50))],dk9,[],Qq1⟩
noncomputable def dg198:Tgt:=⟨[(443,(eL 17)),(444,(eL 0)),(445,(eL 13)),(446,(.byte 406 (eL 0))),(447,(eL 48)),(448,(eL 49)),(449,(eL 50))],dk9,[],Qq3⟩
noncomputable def dg199:Tgt:=⟨[(443,(eL 17)),(444,(eL 0)),(445,(eL 13)),(446,(.byte 406 (eL 0))),(447,(eL 48)),(448,(eL 49)),(449,(eL 50))],dk9,[],Qq2⟩
noncomputable def dg200:Tgt:=⟨[(443,(eL 17)),(444,(eL 0)),(445,(eL 13)),(446,(.byte 406 (eL 0))),(447,(eL 48)),(448,(eL 49)),(449,(eL 50))],dk9,[],Qq1⟩
noncomputable def dg201:Tgt:=⟨[(443,(eL 1)),(444,(eL 0)),(445,(eL 13)),(446,(.byte 406 (eL 0))),(447,(eL 48)),(448,(eL 49)),(449,(eL 50))],dk9,[],Qq3⟩
noncomputable def dg202:Tgt:=⟨[(443,(eL 1)),(444,(eL 0)),(445,(eL 13)),(446,(.byte 406 (eL 0))),(447,(eL 48)),(448,(eL 49)),(449,(eL 50))],dk9,[],Qq2⟩
noncomputable def dg203:Tgt:=⟨[(443,(eL 1)),(444,(eL 0)),(445,(eL 13)),(446,(.byte 406 (eL 0))),(447,(eL 48)),(448,(eL 49)),(449,(eL 50))],dk9,[],Qq1⟩
noncomputable def dg204:Tgt:=⟨[(443,(eL 6)),(444,(eL 0)),(445,(eL 14)),(446,(.byte 406 (eL 0))),(447,(.byte 406 (eL 1))),(448,(eL 48)),(449,(eL 49))],dk9,[],Qq3⟩
noncomputable def dg205:Tgt:=⟨[(443,(eL 6)),(444,(eL 0)),(445,(eL 14)),(446,(.byte 406 (eL 0))),(447,(.byte 406 (eL 1))),(448,(eL 48)),(449,(eL 49))],dk9,[],Qq2⟩
noncomputable def dg206:Tgt:=⟨[(443,(eL 6)),(444,(eL 0)),(445,(eL 14)),(446,(.byte 406 (eL 0))),(447,(.byte 406 (eL 1))),(448,(eL 48)),(449,(eL 49))],dk9,[],Qq1⟩
noncomputable def dg207:Tgt:=⟨[(443,(eL 17)),(444,(eL 0)),(445,(eL 14)),(446,(.byte 406 (eL 0))),(447,(.byte 406 (eL 1))),(448,(eL 48)),(449,(eL 49))],dk9,[],Qq3⟩
noncomputable def dg208:Tgt:=⟨[(443,(eL 17)),(444,(eL 0)),(445,(eL 14)),(446,(.byte 406 (eL 0))),(447,(.byte 406 (eL 1))),(448,(eL 48)),(449,(eL 49))],dk9,[],Qq2⟩
noncomputable def dg209:Tgt:=⟨[(443,(eL 17)),(444,(eL 0)),(445,(eL 14)),(446,(.byte 406 (eL 0))),(447,(.byte 406 (eL 1))),(448,(eL 48)),(449,(eL 49))],dk9,[],Qq1⟩
noncomputable def dg210:Tgt:=⟨[(443,(eL 1)),(444,(eL 0)),(445,(eL 14)),(446,(.byte 406 (eL 0))),(447,(.byte 406 (eL 1))),(448,(eL 48)),(449,(eL 49))],dk9,[],Qq3⟩
noncomputable def dg211:Tgt:=⟨[(443,(eL 1)),(444,(eL 0)),(445,(eL 14)),(446,(.byte 406 (eL 0))),(447,(.byte 406 (eL 1))),(448,(eL 48)),(449,(eL 49))],dk9,[],Qq2⟩
noncomputable def dg212:Tgt:=⟨[(443,(eL 1)),(444,(eL 0)),(445,(eL 14)),(446,(.byte 406 (eL 0))),(447,(.byte 406 (eL 1))),(448,(eL 48)),(449,(eL 49))],dk9,[],Qq1⟩
noncomputable def dg213:Tgt:=⟨[(443,(eL 6)),(444,(eL 0)),(445,(eL 15)),(446,(.byte 406 (eL 0))),(447,(.byte 406 (eL 1))),(448,(.byte 406 (eL 2))),(449,(eL 48))],dk9,[],Qq3⟩
noncomputable def dg214:Tgt:=⟨[(443,(eL 6)),(444,(eL 0)),(445,(eL 15)),(446,(.byte 406 (eL 0))),(447,(.byte 406 (eL 1))),(448,(.byte 406 (eL 2))),(449,(eL 48))],dk9,[],Qq2⟩
noncomputable def dg215:Tgt:=⟨[(443,(eL 6)),(444,(eL 0)),(445,(eL 15)),(446,(.byte 406 (eL 0))),(447,(.byte 406 (eL 1))),(448,(.byte 406 (eL 2))),(449,(eL 48))],dk9,[],Qq1⟩
noncomputable def dg216:Tgt:=⟨[(443,(eL 17)),(444,(eL 0)),(445,(eL 15)),(446,(.byte 406 (eL 0))),(447,(.byte 406 (eL 1))),(448,(.byte 406 (eL 2))),(449,(eL 48))],dk9,[],Qq3⟩
noncomputable def dg217:Tgt:=⟨[(443,(eL 17)),(444,(eL 0)),(445,(eL 15)),(446,(.byte 406 (eL 0))),(447,(.byte 406 (eL 1))),(448,(.byte 406 (eL 2))),(449,(eL 48))],dk9,[],Qq2⟩
noncomputable def dg218:Tgt:=⟨[(443,(eL 17)),(444,(eL 0)),(445,(eL 15)),(446,(.byte 406 (eL 0))),(447,(.byte 406 (eL 1))),(448,(.byte 406 (eL 2))),(449,(eL 48))],dk9,[],Qq1⟩
noncomputable def dg219:Tgt:=⟨[(443,(eL 1)),(444,(eL 0)),(445,(eL 15)),(446,(.byte 406 (eL 0))),(447,(.byte 406 (eL 1))),(448,(.byte 406 (eL 2))),(449,(eL 48))],dk9,[],Qq3⟩
noncomputable def dg220:Tgt:=⟨[(443,(eL 1)),(444,(eL 0)),(445,(eL 15)),(446,(.byte 406 (eL 0))),(447,(.byte 406 (eL 1))),(448,(.byte 406 (eL 2))),(449,(eL 48))],dk9,[],Qq2⟩
noncomputable def dg221:Tgt:=⟨[(443,(eL 1)),(444,(eL 0)),(445,(eL 15)),(446,(.byte 406 (eL 0))),(447,(.byte 406 (eL 1))),(448,(.byte 406 (eL 2))),(449,(eL 48))],dk9,[],Qq1⟩
noncomputable def dg222:Tgt:=⟨[(443,(eL 6)),(444,dy1),(445,dy2),(446,(.byte 406 (eL 0))),(447,(.byte 406 (eL 1))),(448,(.byte 406 (eL 2))),(449,(.byte 406 (eL 3)))],dk9,[],Qq3⟩
noncomputable def dg223:Tgt:=⟨[(443,(eL 6)),(444,dy1),(445,dy2),(446,(.byte 406 (eL 0))),(447,(.byte 406 (eL 1))),(448,(.byte 406 (eL 2))),(449,(.byte 406 (eL 3)))],dk9,[],Qq2⟩
noncomputable def dg224:Tgt:=⟨[(443,(eL 6)),(444,dy1),(445,dy2),(446,(.byte 406 (eL 0))),(447,(.byte 406 (eL 1))),(448,(.byte 406 (eL 2))),(449,(.byte 406 (eL 3)))],dk9,[],Qq1⟩
noncomputable def dg225:Tgt:=⟨[(443,(eL 17)),(444,dy1),(445,dy2),(446,(.byte 406 (eL 0))),(447,(.byte 406 (eL 1))),(448,(.byte 406 (eL 2))),(449,(.byte 406 (eL 3)))],dk9,[],Qq3⟩
noncomputable def dg226:Tgt:=⟨[(443,(eL 17)),(444,dy1),(445,dy2),(446,(.byte 406 (eL 0))),(447,(.byte 406 (eL 1))),(448,(.byte 406 (eL 2))),(449,(.byte 406 (eL 3)))],dk9,[],Qq2⟩
noncomputable def dg227:Tgt:=⟨[(443,(eL 17)),(444,dy1),(445,dy2),(446,(.byte 406 (eL 0))),(447,(.byte 406 (eL 1))),(448,(.byte 406 (eL 2))),(449,(.byte 406 (eL 3)))],dk9,[],Qq1⟩
noncomputable def dg228:Tgt:=⟨[(443,(eL 1)),(444,dy1),(445,dy2),(446,(.byte 406 (eL 0))),(447,(.byte 406 (eL 1))),(448,(.byte 406 (eL 2))),(449,(.byte 406 (eL 3)))],dk9,[],Qq3⟩
noncomputable def dg229:Tgt:=⟨[(443,(eL 1)),(444,dy1),(445,dy2),(446,(.byte 406 (eL 0))),(447,(.byte 406 (eL 1))),(448,(.byte 406 (eL 2))),(449,(.byte 406 (eL 3)))],dk9,[],Qq2⟩
noncomputable def dg230:Tgt:=⟨[(443,(eL 1)),(444,dy1),(445,dy2),(446,(.byte 406 (eL 0))),(447,(.byte 406 (eL 1))),(448,(.byte 406 (eL 2))),(449,(.byte 406 (eL 3)))],dk9,[],Qq1⟩
noncomputable def dg231:Tgt:=⟨[(443,(eL 6)),(444,Qqe),(445,Qqd),(446,(.byte 406 (eL 0))),(447,(.byte 406 (eL 1))),(448,(.byte 406 (eL 2))),(449,(.byte 406 (eL 3)))],dk9,[],Qq3⟩
noncomputable def dg232:Tgt:=⟨[(443,(eL 6)),(444,Qqe),(445,Qqd),(446,(.byte 406 (eL 0))),(447,(.byte 406 (eL 1))),(448,(.byte 406 (eL 2))),(449,(.byte 406 (eL 3)))],dk9,[],Qq2⟩
noncomputable def dg233:Tgt:=⟨[(443,(eL 6)),(444,Qqe),(445,Qqd),(446,(.byte 406 (eL 0))),(447,(.byte 406 (eL 1))),(448,(.byte 406 (eL 2))),(449,(.byte 406 (eL 3)))],dk9,[],Qq1⟩
noncomputable def dg234:Tgt:=⟨[(443,(eL 17)),(444,Qqe),(445,Qqd),(446,(.byte 406 (eL 0))),(447,(.byte 406 (eL 1))),(448,(.byte 406 (eL 2))),(449,(.byte 406 (eL 3)))],dk9,[],Qq3⟩
noncomputable def dg235:Tgt:=⟨[(443,(eL 17)),(444,Qqe),(445,Qqd),(446,(.byte 406 (eL 0))),(447,(.byte 406 (eL 1))),(448,(.byte 406 (eL 2))),(449,(.byte 406 (eL 3)))],dk9,[],Qq2⟩
noncomputable def dg236:Tgt:=⟨[(443,(eL 17)),(444,Qqe),(445,Qqd),(446,(.byte 406 (eL 0))),(447,(.byte 406 (eL 1))),(448,(.byte 406 (eL 2))),(449,(.byte 406 (eL 3)))],dk9,[],Qq1⟩
noncomputable def dg237:Tgt:=⟨[(443,(eL 1)),(444,Qqe),(445,Qqd),(446,(.byte 406 (eL 0))),(447,(.byte 406 (eL 1))),(448,(.byte 406 (eL 2))),(449,(.byte 406 (eL 3)))],dk9,[],Qq3⟩
noncomputable def dg238:Tgt:=⟨[(443,(eL 1)),(444,Qqe),(445,Qqd),(446,(.byte 406 (eL 0))),(447,(.byte 406 (eL 1))),(448,(.byte 406 (eL 2))),(449,(.byte 406 (eL 3)))],dk9,[],Qq2⟩
noncomputable def dg239:Tgt:=⟨[(443,(eL 1)),(444,Qqe),(445,Qqd),(446,(.byte 406 (eL 0))),(447,(.byte 406 (eL 1))),(448,(.byte 406 (eL 2))),(449,(.byte 406 (eL 3)))],dk9,[],Qq1⟩
noncomputable def dg240:Tgt:=⟨[],Z6j,[],dBt0⟩
noncomputable def dg241:Tgt:=⟨[],Z6j,[],Zj6⟩
noncomputable def Qru:Tgt:=⟨[(396,(eL 1))],Z6j,[],Zar⟩
noncomputable def Qrt:Tgt:=⟨[(396,(eL 1))],Z6j,[],Zaq⟩
noncomputable def Qrs:Tgt:=⟨[(396,(eL 1)),(397,(eL 0))],Z6j,[],Zaj⟩
noncomputable def dg245:Tgt:=⟨[],dk17,[],Z49⟩
noncomputable def dg246:Tgt:=⟨[],dk18,[],Qwh⟩
noncomputable def dg247:Tgt:=⟨[],dk19,[],Z48⟩
noncomputable def dg248:Tgt:=⟨[(443,(eL 6)),(444,(eL 0)),(445,(eL 12)),(446,(eL 48)),(447,(eL 49)),(448,(eL 50)),(449,(eL 51))],Qqo,[],Qq0⟩
noncomputable def dg249:Tgt:=⟨[(443,(eL 6)),(444,(eL 0)),(445,(eL 12)),(446,(eL 48)),(447,(eL 49)),(448,(eL 50)),(449,(eL 51))],Qqo,[],Qpz⟩
noncomputable def dg250:Tgt:=⟨[(443,(eL 6)),(444,(eL 0)),(445,(eL 12)),(446,(eL 48)),(447,(eL 49)),(448,(eL 50)),(449,(eL 51))],Qqo,[],Qpy⟩
noncomputable def dg251:Tgt:=⟨[(443,(eL 17)),(444,(eL 0)),(445,(eL 12)),(446,(eL 48)),(447,(eL 49)),(448,(eL 50)),(449,(eL 51))],Qqo,[],Qq0⟩
noncomputable def dg252:Tgt:=⟨[(443,(eL 17)),(444,(eL 0)),(445,(eL 12)),(446,(eL 48)),(447,(eL 49)),(448,(eL 50)),(449,(eL 51))],Qqo,[],Qpz⟩
noncomputable def dg253:Tgt:=⟨[(443,(eL 17)),(444,(eL 0)),(445,(eL 12)),(446,(eL 48)),(447,(eL 49)),(448,(eL 50)),(449,(eL 51))],Qqo,[],Qpy⟩
noncomputable def dg254:Tgt:=⟨[(443,(eL 1)),(444,(eL 0)),(445,(eL 12)),(446,(eL 48)),(447,(eL 49)),(448,(eL 50)),(449,(eL 51))],Qqo,[],Qq0⟩
noncomputable def dg255:Tgt:=⟨[(443,(eL 1)),(444,(eL 0)),(445,(eL 12)),(446,(eL 48)),(447,(eL 49)),(448,(eL 50)),(449,(eL 51))],Qqo,[],Qpz⟩
noncomputable def dg256:Tgt:=⟨[(443,(eL 1)),(444,(eL 0)),(445,(eL 12)),(446,(eL 48)),(447,(eL 49)),(448,(eL 50)),(449,(eL 51))],Qqo,[],Qpy⟩
noncomputable def dg257:Tgt:=⟨[(443,(eL 6)),(444,(eL 0)),(445,(eL 13)),(446,(.byte 406 (eL 0))),(447,(eL 48)),(448,(eL 49)),(449,(eL 50))],Qqo,[],Qq0⟩
noncomputable def dg258:Tgt:=⟨[(443,(eL 6)),(444,(eL 0)),(445,(eL 13)),(446,(.byte 406 (eL 0))),(447,(eL 48)),(448,(eL 49)),(449,(eL 50))],Qqo,[],Qpz⟩
noncomputable def dg259:Tgt:=⟨[(443,(eL 6)),(444,(eL 0)),(445,(eL 13)),(446,(.byte 406 (eL 0))),(447,(eL 48)),(448,(eL 49)),(449,(eL 50))],Qqo,[],Qpy⟩
noncomputable def dg260:Tgt:=⟨[(443,(eL 17)),(444,(eL 0)),(445,(eL 13)),(446,(.byte 406 (eL 0))),(447,(eL 48)),(448,(eL 49)),(449,(eL 50))],Qqo,[],Qq0⟩
noncomputable def dg261:Tgt:=⟨[(443,(eL 17)),(444,(eL 0)),(445,(eL 13)),(446,(.byte 406 (eL 0))),(447,(eL 48)),(448,(eL 49)),(449,(eL 50))],Qqo,[],Qpz⟩
noncomputable def dg262:Tgt:=⟨[(443,(eL 17)),(444,(eL 0)),(445,(eL 13)),(446,(.byte 406 (eL 0))),(447,(eL 48)),(448,(eL 49)),(449,(eL 50))],Qqo,[],Qpy⟩
noncomputable def dg263:Tgt:=⟨[(443,(eL 1)),(444,(eL 0)),(445,(eL 13)),(446,(.byte 406 (eL 0))),(447,(eL 48)),(448,(eL 49)),(449,(eL 50))],Qqo,[],Qq0⟩
noncomputable def dg264:Tgt:=⟨[(443,(eL 1)),(444,(eL 0)),(445,(eL 13)),(446,(.byte 406 (eL 0))),(447,(eL 48)),(448,(eL 49)),(449,(eL 50))],Qqo,[],Qpz⟩
noncomputable def dg265:Tgt:=⟨[(443,(eL 1)),(444,(eL 0)),(445,(eL 13)),(446,(.byte 406 (eL 0))),(447,(eL 48)),(448,(eL 49)),(449,(eL 50))],Qqo,[],Qpy⟩
noncomputable def dg266:Tgt:=⟨[(443,(eL 6)),(444,(eL 0)),(445,(eL 14)),(446,(.byte 406 (eL 0))),(447,(.byte 406 (eL 1))),(448,(eL 48)),(449,(eL 49))],Qqo,[],Qq0⟩
noncomputable def dg267:Tgt:=⟨[(443,(eL 6)),(444,(eL 0)),(445,(eL 14)),(446,(.byte 406 (eL 0))),(447,(.byte 406 (eL 1))),(448,(eL 48)),(449,(eL 49))],Qqo,[],Qpz⟩
noncomputable def dg268:Tgt:=⟨[(443,(eL 6)),(444,(eL 0)),(445,(eL 14)),(446,(.byte 406 (eL 0))),(447,(.byte 406 (eL 1))),(448,(eL 48)),(449,(eL 49))],Qqo,[],Qpy⟩
noncomputable def dg269:Tgt:=⟨[(443,(eL 17)),(444,(eL 0)),(445,(eL 14)),(446,(.byte 406 (eL 0))),(447,(.byte 406 (eL 1))),(448,(eL 48)),(449,(eL 49))],Qqo,[],Qq0⟩
noncomputable def dg270:Tgt:=⟨[(443,(eL 17)),(444,(eL 0)),(445,(eL 14)),(446,(.byte 406 (eL 0))),(447,(.byte 406 (eL 1))),(448,(eL 48)),(449,(eL 49))],Qqo,[],Qpz⟩
noncomputable def dg271:Tgt:=⟨[(443,(eL 17)),(444,(eL 0)),(445,(eL 14)),(446,(.byte 406 (eL 0))),(447,(.byte 406 (eL 1))),(448,(eL 48)),(449,(eL 49))],Qqo,[],Qpy⟩
noncomputable def dg272:Tgt:=⟨[(443,(eL 1)),(444,(eL 0)),(445,(eL 14)),(446,(.byte 406 (eL 0))),(447,(.byte 406 (eL 1))),(448,(eL 48)),(449,(eL 49))],Qqo,[],Qq0⟩
noncomputable def dg273:Tgt:=⟨[(443,(eL 1)),(444,(eL 0)),(445,(eL 14)),(446,(.byte 406 (eL 0))),(447,(.byte 406 (eL 1))),(448,(eL 48)),(449,(eL 49))],Qqo,[],Qpz⟩
noncomputable def dg274:Tgt:=⟨[(443,(eL 1)),(444,(eL 0)),(445,(eL 14)),(446,(.byte 406 (eL 0))),(447,(.byte 406 (eL 1))),(448,(eL 48)),(449,(eL 49))],Qqo,[],Qpy⟩
noncomputable def dg275:Tgt:=⟨[(443,(eL 6)),(444,(eL 0)),(445,(eL 15)),(446,(.byte 406 (eL 0))),(447,(.byte 406 (eL 1))),(448,(.byte 406 (eL 2))),(449,(eL 48))],Qqo,[],Qq0⟩
noncomputable def dg276:Tgt:=⟨[(443,(eL 6)),(444,(eL 0)),(445,(eL 15)),(446,(.byte 406 (eL 0))),(447,(.byte 406 (eL 1))),(448,(.byte 406 (eL 2))),(449,(eL 48))],Qqo,[],Qpz⟩
noncomputable def dg277:Tgt:=⟨[(443,(eL 6)),(444,(eL 0)),(445,(eL 15)),(446,(.byte 406 (eL 0))),(447,(.byte 406 (eL 1))),(448,(.byte 406 (eL 2))),(449,(eL 48))],Qqo,[],Qpy⟩
noncomputable def dg278:Tgt:=⟨[(443,(eL 17)),(444,(eL 0)),(445,(eL 15)),(446,(.byte 406 (eL 0))),(447,(.byte 406 (eL 1))),(448,(.byte 406 (eL 2))),(449,(eL 48))],Qqo,[],Qq0⟩
noncomputable def dg279:Tgt:=⟨[(443,(eL 17)),(444,(eL 0)),(445,(eL 15)),(446,(.byte 406 (eL 0))),(447,(.byte 406 (eL 1))),(448,(.byte 406 (eL 2))),(449,(eL 48))],Qqo,[],Qpz⟩
noncomputable def dg280:Tgt:=⟨[(443,(eL 17)),(444,(eL 0)),(445,(eL 15)),(446,(.byte 406 (eL 0))),(447,(.byte 406 (eL 1))),(448,(.byte 406 (eL 2))),(449,(eL 48))],Qqo,[],Qpy⟩
noncomputable def dg281:Tgt:=⟨[(443,(eL 1)),(444,(eL 0)),(445,(eL 15)),(446,(.byte 406 (eL 0))),(447,(.byte 406 (eL 1))),(448,(.byte 406 (eL 2))),(449,(eL 48))],Qqo,[],Qq0⟩
noncomputable def dg282:Tgt:=⟨[(443,(eL 1)),(444,(eL 0)),(445,(eL 15)),(446,(.byte 406 (eL 0))),(447,(.byte 406 (eL 1))),(448,(.byte 406 (eL 2))),(449,(eL 48))],Qqo,[],Qpz⟩
noncomputable def dg283:Tgt:=⟨[(443,(eL 1)),(444,(eL 0)),(445,(eL 15)),(446,(.byte 406 (eL 0))),(447,(.byte 406 (eL 1))),(448,(.byte 406 (eL 2))),(449,(eL 48))],Qqo,[],Qpy⟩
noncomputable def dg284:Tgt:=⟨[(443,(eL 6)),(444,dy1),(445,dy2),(446,(.byte 406 (eL 0))),(447,(.byte 406 (eL 1))),(448,(.byte 406 (eL 2))),(449,(.byte 406 (eL 3)))],Qqo,[],Qq0⟩
noncomputable def dg285:Tgt:=⟨[(443,(eL 6)),(444,dy1),(445,dy2),(446,(.byte 406 (eL 0))),(447,(.byte 406 (eL 1))),(448,(.byte 406 (eL 2))),(449,(.byte 406 (eL 3)))],Qqo,[],Qpz⟩
noncomputable def dg286:Tgt:=⟨[(443,(eL 6)),(444,dy1),(445,dy2),(446,(.byte 406 (eL 0))),(447,(.byte 406 (eL 1))),(448,(.byte 406 (eL 2))),(449,(.byte 406 (eL 3)))],Qqo,[],Qpy⟩
noncomputable def dg287:Tgt:=⟨[(443,(eL 17)),(444,dy1),(445,dy2),(446,(.byte 406 (eL 0))),(447,(.byte 406 (eL 1))),(448,(.byte 406 (eL 2))),(449,(.byte 406 (eL 3)))],Qqo,[],Qq0⟩
noncomputable def dg288:Tgt:=⟨[(443,(eL 17)),(444,dy1),(445,dy2),(446,(.byte 406 (eL 0))),(447,(.byte 406 (eL 1))),(448,(.byte 406 (eL 2))),(449,(.byte 406 (eL 3)))],Qqo,[],Qpz⟩
noncomputable def dg289:Tgt:=⟨[(443,(eL 17)),(444,dy1),(445,dy2),(446,(.byte 406 (eL 0))),(447,(.byte 406 (eL 1))),(448,(.byte 406 (eL 2))),(449,(.byte 406 (eL 3)))],Qqo,[],Qpy⟩
noncomputable def dg290:Tgt:=⟨[(443,(eL 1)),(444,dy1),(445,dy2),(446,(.byte 406 (eL 0))),(447,(.byte 406 (eL 1))),(448,(.byte 406 (eL 2))),(449,(.byte 406 (eL 3)))],Qqo,[],Qq0⟩
noncomputable def dg291:Tgt:=⟨[(443,(eL 1)),(444,dy1),(445,dy2),(446,(.byte 406 (eL 0))),(447,(.byte 406 (eL 1))),(448,(.byte 406 (eL 2))),(449,(.byte 406 (eL 3)))],Qqo,[],Qpz⟩
noncomputable def dg292:Tgt:=⟨[(443,(eL 1)),(444,dy1),(445,dy2),(446,(.byte 406 (eL 0))),(447,(.byte 406 (eL 1))),(448,(.byte 406 (eL 2))),(449,(.byte 406 (eL 3)))],Qqo,[],Qpy⟩
noncomputable def dg293:Tgt:=⟨[(443,(eL 6)),(444,Qqe),(445,Qqd),(446,(.byte 406 (eL 0))),(447,(.byte 406 (eL 1))),(448,(.byte 406 (eL 2))),(449,(.byte 406 (eL 3)))],Qqo,[],Qq0⟩
noncomputable def dg294:Tgt:=⟨[(443,(eL 6)),(444,Qqe),(445,Qqd),(446,(.byte 406 (eL 0))),(447,(.byte 406 (eL 1))),(448,(.byte 406 (eL 2))),(449,(.byte 406 (eL 3)))],Qqo,[],Qpz⟩
noncomputable def dg295:Tgt:=⟨[(443,(eL 6)),(444,Qqe),(445,Qqd),(446,(.byte 406 (eL 0))),(447,(.byte 406 (eL 1))),(448,(.byte 406 (eL 2))),(449,(.byte 406 (eL 3)))],Qqo,[],Qpy⟩
noncomputable def dg296:Tgt:=⟨[(443,(eL 17)),(444,Qqe),(445,Qqd),(446,(.byte 406 (eL 0))),(447,(.byte 406 (eL 1))),(448,(.byte 406 (eL 2))),(449,(.byte 406 (eL 3)))],Qqo,[],Qq0⟩
noncomputable def dg297:Tgt:=⟨[(443,(eL 17)),(444,Qqe),(445,Qqd),(446,(.byte 406 (eL 0))),(447,(.byte 406 (eL 1))),(448,(.byte 406 (eL 2))),(449,(.byte 406 (eL 3)))],Qqo,[],Qpz⟩
noncomputable def dg298:Tgt:=⟨[(443,(eL 17)),(444,Qqe),(445,Qqd),(446,(.byte 406 (eL 0))),(447,(.byte 406 (eL 1))),(448,(.byte 406 (eL 2))),(449,(.byte 406 (eL 3)))],Qqo,[],Qpy⟩
noncomputable def dg299:Tgt:=⟨[(443,(eL 1)),(444,Qqe),(445,Qqd),(446,(.byte 406 (eL 0))),(447,(.byte 406 (eL 1))),(448,(.byte 406 (eL 2))),(449,(.byte 406 (eL 3)))],Qqo,[],Qq0⟩
noncomputable def dg300:Tgt:=⟨[(443,(eL 1)),(444,Qqe),(445,Qqd),(446,(.byte 406 (eL 0))),(447,(.byte 406 (eL 1))),(448,(.byte 406 (eL 2))),(449,(.byte 406 (eL 3)))],Qqo,[],Qpz⟩
noncomputable def dg301:Tgt:=⟨[(443,(eL 1)),(444,Qqe),(445,Qqd),(446,(.byte 406 (eL 0))),(447,(.byte 406 (eL 1))),(448,(.byte 406 (eL 2))),(449,(.byte 406 (eL 3)))],Qqo,[],Qpy⟩
noncomputable def dg302:Tgt:=⟨[],dk21,[],Z6s⟩
noncomputable def Qrr:Tgt:=⟨[(396,dy7)],Z6j,[],Zar⟩
noncomputable def Qqq:Tgt:=⟨[(396,dy7)],Z6j,[],Zaq⟩
noncomputable def Qpo:Tgt:=⟨[(396,dy7),(397,(.var 396))],Z6j,[],Zaj⟩
noncomputable def dg306:Tgt:=⟨[],dk22,[],Z47⟩
noncomputable def dg307:Tgt:=⟨[],dk23,[],Qwg⟩
noncomputable def dg308:Tgt:=⟨[],dk24,[],Z46⟩
noncomputable def dg309:Tgt:=⟨[(443,(eL 6)),(444,(eL 0)),(445,(eL 12)),(446,(eL 48)),(447,(eL 49)),(448,(eL 50)),(449,(eL 51))],Qoz,[],Qpx⟩
noncomputable def dg310:Tgt:=⟨[(443,(eL 6)),(444,(eL 0)),(445,(eL 12)),(446,(eL 48)),(447,(eL 49)),(448,(eL 50)),(449,(eL 51))],Qoz,[],Qpw⟩
noncomputable def dg311:Tgt:=⟨[(443,(eL 6)),(444,(eL 0)),(445,(eL 12)),(446,(eL 48)),(447,(eL 49)),(448,(eL 50)),(449,(eL 51))],Qoz,[],Qpv⟩
noncomputable def dg312:Tgt:=⟨[(443,(eL 17)),(444,(eL 0)),(445,(eL 12)),(446,(eL 48)),(447,(eL 49)),(448,(eL 50)),(449,(eL 51))],Qoz,[],Qpx⟩
noncomputable def dg313:Tgt:=⟨[(443,(eL 17)),(444,(eL 0)),(445,(eL 12)),(446,(eL 48)),(447,(eL 49)),(448,(eL 50)),(449,(eL 51))],Qoz,[],Qpw⟩
noncomputable def dg314:Tgt:=⟨[(443,(eL 17)),(444,(eL 0)),(445,(eL 12)),(446,(eL 48)),(447,(eL 49)),(448,(eL 50)),(449,(eL 51))],Qoz,[],Qpv⟩
noncomputable def dg315:Tgt:=⟨[(443,(eL 1)),(444,(eL 0)),(445,(eL 12)),(446,(eL 48)),(447,(eL 49)),(448,(eL 50)),(449,(eL 51))],Qoz,[],Qpx⟩
noncomputable def dg316:Tgt:=⟨[(443,(eL 1)),(444,(eL 0)),(445,(eL 12)),(446,(eL 48)),(447,(eL 49)),(448,(eL 50)),(449,(eL 51))],Qoz,[],Qpw⟩
noncomputable def dg317:Tgt:=⟨[(443,(eL 1)),(444,(eL 0)),(445,(eL 12)),(446,(eL 48)),(447,(eL 49)),(448,(eL 50)),(449,(eL 51))],Qoz,[],Qpv⟩
noncomputable def dg318:Tgt:=⟨[(443,(eL 6)),(444,(eL 0)),(445,(eL 13)),(446,(.byte 406 (eL 0))),(447,(eL 48)),(448,(eL 49)),(449,(eL 50))],Qoz,[],Qpx⟩
noncomputable def dg319:Tgt:=⟨[(443,(eL 6)),(444,(eL 0)),(445,(eL 13)),(446,(.byte 406 (eL 0))),(447,(eL 48)),(448,(eL 49)),(449,(eL 50))],Qoz,[],Qpw⟩
noncomputable def dg320:Tgt:=⟨[(443,(eL 6)),(444,(eL 0)),(445,(eL 13)),(446,(.byte 406 (eL 0))),(447,(eL 48)),(448,(eL 49)),(449,(eL 50))],Qoz,[],Qpv⟩
noncomputable def dg321:Tgt:=⟨[(443,(eL 17)),(444,(eL 0)),(445,(eL 13)),(446,(.byte 406 (eL 0))),(447,(eL 48)),(448,(eL 49)),(449,(eL 50))],Qoz,[],Qpx⟩
noncomputable def dg322:Tgt:=⟨[(443,(eL 17)),(444,(eL 0)),(445,(eL 13)),(446,(.byte 406 (eL 0))),(447,(eL 48)),(448,(eL 49)),(449,(eL 50))],Qoz,[],Qpw⟩
noncomputable def dg323:Tgt:=⟨[(443,(eL 17)),(444,(eL 0)),(445,(eL 13)),(446,(.byte 406 (eL 0))),(447,(eL 48)),(448,(eL 49)),(449,(eL 50))],Qoz,[],Qpv⟩
noncomputable def dg324:Tgt:=⟨[(443,(eL 1)),(444,(eL 0)),(445,(eL 13)),(446,(.byte 406 (eL 0))),(447,(eL 48)),(448,(eL 49)),(449,(eL 50))],Qoz,[],Qpx⟩
noncomputable def dg325:Tgt:=⟨[(443,(eL 1)),(444,(eL 0)),(445,(eL 13)),(446,(.byte 406 (eL 0))),(447,(eL 48)),(448,(eL 49)),(449,(eL 50))],Qoz,[],Qpw⟩
noncomputable def dg326:Tgt:=⟨[(443,(eL 1)),(444,(eL 0)),(445,(eL 13)),(446,(.byte 406 (eL 0))),(447,(eL 48)),(448,(eL 49)),(449,(eL 50))],Qoz,[],Qpv⟩
noncomputable def dg327:Tgt:=⟨[(443,(eL 6)),(444,(eL 0)),(445,(eL 14)),(446,(.byte 406 (eL 0))),(447,(.byte 406 (eL 1))),(448,(eL 48)),(449,(eL 49))],Qoz,[],Qpx⟩
noncomputable def dg328:Tgt:=⟨[(443,(eL 6)),(444,(eL 0)),(445,(eL 14)),(446,(.byte 406 (eL 0))),(447,(.byte 406 (eL 1))),(448,(eL 48)),(449,(eL 49))],Qoz,[],Qpw⟩
noncomputable def dg329:Tgt:=⟨[(443,(eL 6)),(444,(eL 0)),(445,(eL 14)),(446,(.byte 406 (eL 0))),(447,(.byte 406 (eL 1))),(448,(eL 48)),(449,(eL 49))],Qoz,[],Qpv⟩
noncomputable def dg330:Tgt:=⟨[(443,(eL 17)),(444,(eL 0)),(445,(eL 14)),(446,(.byte 406 (eL 0))),(447,(.byte 406 (eL 1))),(448,(eL 48)),(449,(eL 49))],Qoz,[],Qpx⟩
noncomputable def dg331:Tgt:=⟨[(443,(eL 17)),(444,(eL 0)),(445,(eL 14)),(446,(.byte 406 (eL 0))),(447,(.byte 406 (eL 1))),(448,(eL 48)),(449,(eL 49))],Qoz,[],Qpw⟩
noncomputable def dg332:Tgt:=⟨[(443,(eL 17)),(444,(eL 0)),(445,(eL 14)),(446,(.byte 406 (eL 0))),(447,(.byte 406 (eL 1))),(448,(eL 48)),(449,(eL 49))],Qoz,[],Qpv⟩
noncomputable def dg333:Tgt:=⟨[(443,(eL 1)),(444,(eL 0)),(445,(eL 14)),(446,(.byte 406 (eL 0))),(447,(.byte 406 (eL 1))),(448,(eL 48)),(449,(eL 49))],Qoz,[],Qpx⟩
noncomputable def dg334:Tgt:=⟨[(443,(eL 1)),(444,(eL 0)),(445,(eL 14)),(446,(.byte 406 (eL 0))),(447,(.byte 406 (eL 1))),(448,(eL 48)),(449,(eL 49))],Qoz,[],Qpw⟩
noncomputable def dg335:Tgt:=⟨[(443,(eL 1)),(444,(eL 0)),(445,(eL 14)),(446,(.byte 406 (eL 0))),(447,(.byte 406 (eL 1))),(448,(eL 48)),(449,(eL 49))],Qoz,[],Qpv⟩
noncomputable def dg336:Tgt:=⟨[(443,(eL 6)),(444,(eL 0)),(445,(eL 15)),(446,(.byte 406 (eL 0))),(447,(.byte 406 (eL 1))),(448,(.byte 406 (eL 2))),(449,(eL 48))],Qoz,[],Qpx⟩
noncomputable def dg337:Tgt:=⟨[(443,(eL 6)),(444,(eL 0)),(445,(eL 15)),(446,(.byte 406 (eL 0))),(447,(.byte 406 (eL 1))),(448,(.byte 406 (eL 2))),(449,(eL 48))],Qoz,[],Qpw⟩
noncomputable def dg338:Tgt:=⟨[(443,(eL 6)),(444,(eL 0)),(445,(eL 15)),(446,(.byte 406 (eL 0))),(447,(.byte 406 (eL 1))),(448,(.byte 406 (eL 2))),(449,(eL 48))],Qoz,[],Qpv⟩
noncomputable def dg339:Tgt:=⟨[(443,(eL 17)),(444,(eL 0)),(445,(eL 15)),(446,(.byte 406 (eL 0))),(447,(.byte 406 (eL 1))),(448,(.byte 406 (eL 2))),(449,(eL 48))],Qoz,[],Qpx⟩
noncomputable def dg340:Tgt:=⟨[(443,(eL 17)),(444,(eL 0)),(445,(eL 15)),(446,(.byte 406 (eL 0))),(447,(.byte 406 (eL 1))),(448,(.byte 406 (eL 2))),(449,(eL 48))],Qoz,[],Qpw⟩
noncomputable def dg341:Tgt:=⟨[(443,(eL 17)),(444,(eL 0)),(445,(eL 15)),(446,(.byte 406 (eL 0))),(447,(.byte 406 (eL 1))),(448,(.byte 406 (eL 2))),(449,(eL 48))],Qoz,[],Qpv⟩
noncomputable def dg342:Tgt:=⟨[(443,(eL 1)),(444,(eL 0)),(445,(eL 15)),(446,(.byte 406 (eL 0))),(447,(.byte 406 (eL 1))),(448,(.byte 406 (eL 2))),(449,(eL 48))],Qoz,[],Qpx⟩
noncomputable def dg343:Tgt:=⟨[(443,(eL 1)),(444,(eL 0)),(445,(eL 15)),(446,(.byte 406 (eL 0))),(447,(.byte 406 (eL 1))),(448,(.byte 406 (eL 2))),(449,(eL 48))],Qoz,[],Qpw⟩
noncomputable def dg344:Tgt:=⟨[(443,(eL 1)),(444,(eL 0)),(445,(eL 15)),(446,(.byte 406 (eL 0))),(447,(.byte 406 (eL 1))),(448,(.byte 406 (eL 2))),(449,(eL 48))],Qoz,[],Qpv⟩
noncomputable def dg345:Tgt:=⟨[(443,(eL 6)),(444,dy1),(445,dy2),(446,(.byte 406 (eL 0))),(447,(.byte 406 (eL 1))),(448,(.byte 406 (eL 2))),(449,(.byte 406 (eL 3)))],Qoz,[],Qpx⟩
noncomputable def dg346:Tgt:=⟨[(443,(eL 6)),(444,dy1),(445,dy2),(446,(.byte 406 (eL 0))),(447,(.byte 406 (eL 1))),(448,(.byte 406 (eL 2))),(449,(.byte 406 (eL 3)))],Qoz,[],Qpw⟩
noncomputable def dg347:Tgt:=⟨[(443,(eL 6)),(444,dy1),(445,dy2),(446,(.byte 406 (eL 0))),(447,(.byte 406 (eL 1))),(448,(.byte 406 (eL 2))),(449,(.byte 406 (eL 3)))],Qoz,[],Qpv⟩
noncomputable def dg348:Tgt:=⟨[(443,(eL 17)),(444,dy1),(445,dy2),(446,(.byte 406 (eL 0))),(447,(.byte 406 (eL 1))),(448,(.byte 406 (eL 2))),(449,(.byte 406 (eL 3)))],Qoz,[],Qpx⟩
noncomputable def dg349:Tgt:=⟨[(443,(eL 17)),(444,dy1),(445,dy2),(446,(.byte 406 (eL 0))),(447,(.byte 406 (eL 1))),(448,(.byte 406 (eL 2))),(449,(.byte 406 (eL 3)))],Qoz,[],Qpw⟩
noncomputable def dg350:Tgt:=⟨[(443,(eL 17)),(444,dy1),(445,dy2),(446,(.byte 406 (eL 0))),(447,(.byte 406 (eL 1))),(448,(.byte 406 (eL 2))),(449,(.byte 406 (eL 3)))],Qoz,[],Qpv⟩
noncomputable def dg351:Tgt:=⟨[(443,(eL 1)),(444,dy1),(445,dy2),(446,(.byte 406 (eL 0))),(447,(.byte 406 (eL 1))),(448,(.byte 406 (eL 2))),(449,(.byte 406 (eL 3)))],Qoz,[],Qpx⟩
noncomputable def dg352:Tgt:=⟨[(443,(eL 1)),(444,dy1),(445,dy2),(446,(.byte 406 (eL 0))),(447,(.byte 406 (eL 1))),(448,(.byte 406 (eL 2))),(449,(.byte 406 (eL 3)))],Qoz,[],Qpw⟩
noncomputable def dg353:Tgt:=⟨[(443,(eL 1)),(444,dy1),(445,dy2),(446,(.byte 406 (eL 0))),(447,(.byte 406 (eL 1))),(448,(.byte 406 (eL 2))),(449,(.byte 406 (eL 3)))],Qoz,[],Qpv⟩
noncomputable def dg354:Tgt:=⟨[(443,(eL 6)),(444,Qqe),(445,Qqd),(446,(.byte 406 (eL 0))),(447,(.byte 406 (eL 1))),(448,(.byte 406 (eL 2))),(449,(.byte 406 (eL 3)))],Qoz,[],Qpx⟩
noncomputable def dg355:Tgt:=⟨[(443,(eL 6)),(444,Qqe),(445,Qqd),(446,(.byte 406 (eL 0))),(447,(.byte 406 (eL 1))),(448,(.byte 406 (eL 2))),(449,(.byte 406 (eL 3)))],Qoz,[],Qpw⟩
noncomputable def dg356:Tgt:=⟨[(443,(eL 6)),(444,Qqe),(445,Qqd),(446,(.byte 406 (eL 0))),(447,(.byte 406 (eL 1))),(448,(.byte 406 (eL 2))),(449,(.byte 406 (eL 3)))],Qoz,[],Qpv⟩
noncomputable def dg357:Tgt:=⟨[(443,(eL 17)),(444,Qqe),(445,Qqd),(446,(.byte 406 (eL 0))),(447,(.byte 406 (eL 1))),(448,(.byte 406 (eL 2))),(449,(.byte 406 (eL 3)))],Qoz,[],Qpx⟩
noncomputable def dg358:Tgt:=⟨[(443,(eL 17)),(444,Qqe),(445,Qqd),(446,(.byte 406 (eL 0))),(447,(.byte 406 (eL 1))),(448,(.byte 406 (eL 2))),(449,(.byte 406 (eL 3)))],Qoz,[],Qpw⟩
noncomputable def dg359:Tgt:=⟨[(443,(eL 17)),(444,Qqe),(445,Qqd),(446,(.byte 406 (eL 0))),(447,(.byte 406 (eL 1))),(448,(.byte 406 (eL 2))),(449,(.byte 406 (eL 3)))],Qoz,[],Qpv⟩
noncomputable def dg360:Tgt:=⟨[(443,(eL 1)),(444,Qqe),(445,Qqd),(446,(.byte 406 (eL 0))),(447,(.byte 406 (eL 1))),(448,(.byte 406 (eL 2))),(449,(.byte 406 (eL 3)))],Qoz,[],Qpx⟩
noncomputable def dg361:Tgt:=⟨[(443,(eL 1)),(444,Qqe),(445,Qqd),(446,(.byte 406 (eL 0))),(447,(.byte 406 (eL 1))),(448,(.byte 406 (eL 2))),(449,(.byte 406 (eL 3)))],Qoz,[],Qpw⟩
noncomputable def dg362:Tgt:=⟨[(443,(eL 1)),(444,Qqe),(445,Qqd),(446,(.byte 406 (eL 0))),(447,(.byte 406 (eL 1))),(448,(.byte 406 (eL 2))),(449,(.byte 406 (eL 3)))],Qoz,[],Qpv⟩
noncomputable def dg363:Tgt:=⟨[],dk26,[],Z6r⟩
noncomputable def Qrq:Tgt:=⟨[(396,dy7)],dk27,[],Zaj⟩
noncomputable def dg365:Tgt:=⟨[],dk28,[],Z45⟩
noncomputable def dg366:Tgt:=⟨[],dk29,[],Qwf⟩
noncomputable def dg367:Tgt:=⟨[],dk30,[],Z44⟩
noncomputable def dg368:Tgt:=⟨[(443,(eL 6)),(444,(eL 0)),(445,(eL 12)),(446,(eL 48)),(447,(eL 49)),(448,(eL 50)),(449,(eL 51))],Qqn,[],Qpu⟩
noncomputable def dg369:Tgt:=⟨[(443,(eL 6)),(444,(eL 0)),(445,(eL 12)),(446,(eL 48)),(447,(eL 49)),(448,(eL 50)),(449,(eL 51))],Qqn,[],Qpt⟩
noncomputable def dg370:Tgt:=⟨[(443,(eL 6)),(444,(eL 0)),(445,(eL 12)),(446,(eL 48)),(447,(eL 49)),(448,(eL 50)),(449,(eL 51))],Qqn,[],Qps⟩
noncomputable def dg371:Tgt:=⟨[(443,(eL 17)),(444,(eL 0)),(445,(eL 12)),(446,(eL 48)),(447,(eL 49)),(448,(eL 50)),(449,(eL 51))],Qqn,[],Qpu⟩
noncomputable def dg372:Tgt:=⟨[(443,(eL 17)),(444,(eL 0)),(445,(eL 12)),(446,(eL 48)),(447,(eL 49)),(448,(eL 50)),(449,(eL 51))],Qqn,[],Qpt⟩
noncomputable def dg373:Tgt:=⟨[(443,(eL 17)),(444,(eL 0)),(445,(eL 12)),(446,(eL 48)),(447,(eL 49)),(448,(eL 50)),(449,(eL 51))],Qqn,[],Qps⟩
noncomputable def dg374:Tgt:=⟨[(443,(eL 1)),(444,(eL 0)),(445,(eL 12)),(446,(eL 48)),(447,(eL 49)),(448,(eL 50)),(449,(eL 51))],Qqn,[],Qpu⟩
noncomputable def dg375:Tgt:=⟨[(443,(eL 1)),(444,(eL 0)),(445,(eL 12)),(446,(eL 48)),(447,(eL 49)),(448,(eL 50)),(449,(eL 51))],Qqn,[],Qpt⟩
noncomputable def dg376:Tgt:=⟨[(443,(eL 1)),(444,(eL 0)),(445,(eL 12)),(446,(eL 48)),(447,(eL 49)),(448,(eL 50)),(449,(eL 51))],Qqn,[],Qps⟩
noncomputable def dg377:Tgt:=⟨[(443,(eL 6)),(444,(eL 0)),(445,(eL 13)),(446,(.byte 406 (eL 0))),(447,(eL 48)),(448,(eL 49)),(449,(eL 50))],Qqn,[],Qpu⟩
noncomputable def dg378:Tgt:=⟨[(443,(eL 6)),(444,(eL 0)),(445,(eL 13)),(446,(.byte 406 (eL 0))),(447,(eL 48)),(448,(eL 49)),(449,(eL 50))],Qqn,[],Qpt⟩
noncomputable def dg379:Tgt:=⟨[(443,(eL 6)),(444,(eL 0)),(445,(eL 13)),(446,(.byte 406 (eL 0))),(447,(eL 48)),(448,(eL 49)),(449,(eL 50))],Qqn,[],Qps⟩
noncomputable def dg380:Tgt:=⟨[(443,(eL 17)),(444,(eL 0)),(445,(eL 13)),(446,(.byte 406 (eL 0))),(447,(eL 48)),(448,(eL 49)),(449,(eL 50))],Qqn,[],Qpu⟩
noncomputable def dg381:Tgt:=⟨[(443,(eL 17)),(444,(eL 0)),(445,(eL 13)),(446,(.byte 406 (eL 0))),(447,(eL 48)),(448,(eL 49)),(449,(eL 50))],Qqn,[],Qpt⟩
noncomputable def dg382:Tgt:=⟨[(443,(eL 17)),(444,(eL 0)),(445,(eL 13)),(446,(.byte 406 (eL 0))),(447,(eL 48)),(448,(eL 49)),(449,(eL 50))],Qqn,[],Qps⟩
noncomputable def dg383:Tgt:=⟨[(443,(eL 1)),(444,(eL 0)),(445,(eL 13)),(446,(.byte 406 (eL 0))),(447,(eL 48)),(448,(eL 49)),(449,(eL 50))],Qqn,[],Qpu⟩
noncomputable def dg384:Tgt:=⟨[(443,(eL 1)),(444,(eL 0)),(445,(eL 13)),(446,(.byte 406 (eL 0))),(447,(eL 48)),(448,(eL 49)),(449,(eL 50))],Qqn,[],Qpt⟩
noncomputable def dg385:Tgt:=⟨[(443,(eL 1)),(444,(eL 0)),(445,(eL 13)),(446,(.byte 406 (eL 0))),(447,(eL 48)),(448,(eL 49)),(449,(eL 50))],Qqn,[],Qps⟩
noncomputable def dg386:Tgt:=⟨[(443,(eL 6)),(444,(eL 0)),(445,(eL 14)),(446,(.byte 406 (eL 0))),(447,(.byte 406 (eL 1))),(448,(eL 48)),(449,(eL 49))],Qqn,[],Qpu⟩
noncomputable def dg387:Tgt:=⟨[(443,(eL 6)),(444,(eL 0)),(445,(eL 14)),(446,(.byte 406 (eL 0))),(447,(.byte 406 (eL 1))),(448,(eL 48)),(449,(eL 49))],Qqn,[],Qpt⟩
noncomputable def dg388:Tgt:=⟨[(443,(eL 6)),(444,(eL 0)),(445,(eL 14)),(446,(.byte 406 (eL 0))),(447,(.byte 406 (eL 1))),(448,(eL 48)),(449,(eL 49))],Qqn,[],Qps⟩
noncomputable def dg389:Tgt:=⟨[(443,(eL 17)),(444,(eL 0)),(445,(eL 14)),(446,(.byte 406 (eL 0))),(447,(.byte 406 (eL 1))),(448,(eL 48)),(449,(eL 49))],Qqn,[],Qpu⟩
noncomputable def dg390:Tgt:=⟨[(443,(eL 17)),(444,(eL 0)),(445,(eL 14)),(446,(.byte 406 (eL 0))),(447,(.byte 406 (eL 1))),(448,(eL 48)),(449,(eL 49))],Qqn,[],Qpt⟩
noncomputable def dg391:Tgt:=⟨[(443,(eL 17)),(444,(eL 0)),(445,(eL 14)),(446,(.byte 406 (eL 0))),(447,(.byte 406 (eL 1))),(448,(eL 48)),(449,(eL 49))],Qqn,[],Qps⟩
noncomputable def dg392:Tgt:=⟨[(443,(eL 1)),(444,(eL 0)),(445,(eL 14)),(446,(.byte 406 (eL 0))),(447,(.byte 406 (eL 1))),(448,(eL 48)),(449,(eL 49))],Qqn,[],Qpu⟩
noncomputable def dg393:Tgt:=⟨[(443,(eL 1)),(444,(eL 0)),(445,(eL 14)),(446,(.byte 406 (eL 0))),(447,(.byte 406 (eL 1))),(448,(eL 48)),(449,(eL 49))],Qqn,[],Qpt⟩
noncomputable def dg394:Tgt:=⟨[(443,(eL 1)),(444,(eL 0)),(445,(eL 14)),(446,(.byte 406 (eL 0))),(447,(.byte 406 (eL 1))),(448,(eL 48)),(449,(eL 49))],Qqn,[],Qps⟩
noncomputable def dg395:Tgt:=⟨[(443,(eL 6)),(444,(eL 0)),(445,(eL 15)),(446,(.byte 406 (eL 0))),(447,(.byte 406 (eL 1))),(448,(.byte 406 (eL 2))),(449,(eL 48))],Qqn,[],Qpu⟩
noncomputable def dg396:Tgt:=⟨[(443,(eL 6)),(444,(eL 0)),(445,(eL 15)),(446,(.byte 406 (eL 0))),(447,(.byte 406 (eL 1))),(448,(.byte 406 (eL 2))),(449,(eL 48))],Qqn,[],Qpt⟩
noncomputable def dg397:Tgt:=⟨[(443,(eL 6)),(444,(eL 0)),(445,(eL 15)),(446,(.byte 406 (eL 0))),(447,(.byte 406 (eL 1))),(448,(.byte 406 (eL 2))),(449,(eL 48))],Qqn,[],Qps⟩
noncomputable def dg398:Tgt:=⟨[(443,(eL 17)),(444,(eL 0)),(445,(eL 15)),(446,(.byte 406 (eL 0))),(447,(.byte 406 (eL 1))),(448,(.byte 406 (eL 2))),(449,(eL 48))],Qqn,[],Qpu⟩
noncomputable def dg399:Tgt:=⟨[(443,(eL 17)),(444,(eL 0)),(445,(eL 15)),(446,(.byte 406 (eL 0))),(447,(.byte 406 (eL 1))),(448,(.byte 406 (eL 2))),(449,(eL 48))],Qqn,[],Qpt⟩
noncomputable def dg400:Tgt:=⟨[(443,(eL 17)),(444,(eL 0)),(445,(eL 15)),(446,(.byte 406 (eL 0))),(447,(.byte 406 (eL 1))),(448,(.byte 406 (eL 2))),(449,(eL 48))],Qqn,[],Qps⟩
noncomputable def dg401:Tgt:=⟨[(443,(eL 1)),(444,(eL 0)),(445,(eL 15)),(446,(.byte 406 (eL 0))),(447,(.byte 406 (eL 1))),(448,(.byte 406 (eL 2))),(449,(eL 48))],Qqn,[],Qpu⟩
noncomputable def dg402:Tgt:=⟨[(443,(eL 1)),(444,(eL 0)),(445,(eL 15)),(446,(.byte 406 (eL 0))),(447,(.byte 406 (eL 1))),(448,(.byte 406 (eL 2))),(449,(eL 48))],Qqn,[],Qpt⟩
noncomputable def dg403:Tgt:=⟨[(443,(eL 1)),(444,(eL 0)),(445,(eL 15)),(446,(.byte 406 (eL 0))),(447,(.byte 406 (eL 1))),(448,(.byte 406 (eL 2))),(449,(eL 48))],Qqn,[],Qps⟩
noncomputable def dg404:Tgt:=⟨[(443,(eL 6)),(444,dy1),(445,dy2),(446,(.byte 406 (eL 0))),(447,(.byte 406 (eL 1))),(448,(.byte 406 (eL 2))),(449,(.byte 406 (eL 3)))],Qqn,[],Qpu⟩
noncomputable def dg405:Tgt:=⟨[(443,(eL 6)),(444,dy1),(445,dy2),(446,(.byte 406 (eL 0))),(447,(.byte 406 (eL 1))),(448,(.byte 406 (eL 2))),(449,(.byte 406 (eL 3)))],Qqn,[],Qpt⟩
noncomputable def dg406:Tgt:=⟨[(443,(eL 6)),(444,dy1),(445,dy2),(446,(.byte 406 (eL 0))),(447,(.byte 406 (eL 1))),(448,(.byte 406 (eL 2))),(449,(.byte 406 (eL 3)))],Qqn,[],Qps⟩
noncomputable def dg407:Tgt:=⟨[(443,(eL 17)),(444,dy1),(445,dy2),(446,(.byte 406 (eL 0))),(447,(.byte 406 (eL 1))),(448,(.byte 406 (eL 2))),(449,(.byte 406 (eL 3)))],Qqn,[],Qpu⟩
noncomputable def dg408:Tgt:=⟨[(443,(eL 17)),(444,dy1),(445,dy2),(446,(.byte 406 (eL 0))),(447,(.byte 406 (eL 1))),(448,(.byte 406 (eL 2))),(449,(.byte 406 (eL 3)))],Qqn,[],Qpt⟩
noncomputable def dg409:Tgt:=⟨[(443,(eL 17)),(444,dy1),(445,dy2),(446,(.byte 406 (eL 0))),(447,(.byte 406 (eL 1))),(448,(.byte 406 (eL 2))),(449,(.byte 406 (eL 3)))],Qqn,[],Qps⟩
noncomputable def dg410:Tgt:=⟨[(443,(eL 1)),(444,dy1),(445,dy2),(446,(.byte 406 (eL 0))),(447,(.byte 406 (eL 1))),(448,(.byte 406 (eL 2))),(449,(.byte 406 (eL 3)))],Qqn,[],Qpu⟩
noncomputable def dg411:Tgt:=⟨[(443,(eL 1)),(444,dy1),(445,dy2),(446,(.byte 406 (eL 0))),(447,(.byte 406 (eL 1))),(448,(.byte 406 (eL 2))),(449,(.byte 406 (eL 3)))],Qqn,[],Qpt⟩
noncomputable def dg412:Tgt:=⟨[(443,(eL 1)),(444,dy1),(445,dy2),(446,(.byte 406 (eL 0))),(447,(.byte 406 (eL 1))),(448,(.byte 406 (eL 2))),(449,(.byte 406 (eL 3)))],Qqn,[],Qps⟩
noncomputable def dg413:Tgt:=⟨[(443,(eL 6)),(444,Qqe),(445,Qqd),(446,(.byte 406 (eL 0))),(447,(.byte 406 (eL 1))),(448,(.byte 406 (eL 2))),(449,(.byte 406 (eL 3)))],Qqn,[],Qpu⟩
noncomputable def dg414:Tgt:=⟨[(443,(eL 6)),(444,Qqe),(445,Qqd),(446,(.byte 406 (eL 0))),(447,(.byte 406 (eL 1))),(448,(.byte 406 (eL 2))),(449,(.byte 406 (eL 3)))],Qqn,[],Qpt⟩
noncomputable def dg415:Tgt:=⟨[(443,(eL 6)),(444,Qqe),(445,Qqd),(446,(.byte 406 (eL 0))),(447,(.byte 406 (eL 1))),(448,(.byte 406 (eL 2))),(449,(.byte 406 (eL 3)))],Qqn,[],Qps⟩
noncomputable def dg416:Tgt:=⟨[(443,(eL 17)),(444,Qqe),(445,Qqd),(446,(.byte 406 (eL 0))),(447,(.byte 406 (eL 1))),(448,(.byte 406 (eL 2))),(449,(.byte 406 (eL 3)))],Qqn,[],Qpu⟩
noncomputable def dg417:Tgt:=⟨[(443,(eL 17)),(444,Qqe),(445,Qqd),(446,(.byte 406 (eL 0))),(447,(.byte 406 (eL 1))),(448,(.byte 406 (eL 2))),(449,(.byte 406 (eL 3)))],Qqn,[],Qpt⟩
noncomputable def dg418:Tgt:=⟨[(443,(eL 17)),(444,Qqe),(445,Qqd),(446,(.byte 406 (eL 0))),(447,(.byte 406 (eL 1))),(448,(.byte 406 (eL 2))),(449,(.byte 406 (eL 3)))],Qqn,[],Qps⟩
noncomputable def dg419:Tgt:=⟨[(443,(eL 1)),(444,Qqe),(445,Qqd),(446,(.byte 406 (eL 0))),(447,(.byte 406 (eL 1))),(448,(.byte 406 (eL 2))),(449,(.byte 406 (eL 3)))],Qqn,[],Qpu⟩
noncomputable def dg420:Tgt:=⟨[(443,(eL 1)),(444,Qqe),(445,Qqd),(446,(.byte 406 (eL 0))),(447,(.byte 406 (eL 1))),(448,(.byte 406 (eL 2))),(449,(.byte 406 (eL 3)))],Qqn,[],Qpt⟩
noncomputable def dg421:Tgt:=⟨[(443,(eL 1)),(444,Qqe),(445,Qqd),(446,(.byte 406 (eL 0))),(447,(.byte 406 (eL 1))),(448,(.byte 406 (eL 2))),(449,(.byte 406 (eL 3)))],Qqn,[],Qps⟩
noncomputable def dg422:Tgt:=⟨[],dk21,[],Z6q⟩
noncomputable def dg423:Tgt:=⟨[],dk22,[],Z43⟩
noncomputable def dg424:Tgt:=⟨[],dk23,[],Qwe⟩
noncomputable def dg425:Tgt:=⟨[],dk24,[],Z42⟩
noncomputable def dg426:Tgt:=⟨[(443,(eL 6)),(444,(eL 0)),(445,(eL 12)),(446,(eL 48)),(447,(eL 49)),(448,(eL 50)),(449,(eL 51))],Qoz,[],Qpr⟩
noncomputable def dg427:Tgt:=⟨[(443,(eL 6)),(444,(eL 0)),(445,(eL 12)),(446,(eL 48)),(447,(eL 49)),(448,(eL 50)),(449,(eL 51))],Qoz,[],Qpq⟩
noncomputable def dg428:Tgt:=⟨[(443,(eL 6)),(444,(eL 0)),(445,(eL 12)),(446,(eL 48)),(447,(eL 49)),(448,(eL 50)),(449,(eL 51))],Qoz,[],Qpp⟩
noncomputable def dg429:Tgt:=⟨[(443,(eL 17)),(444,(eL 0)),(445,(eL 12)),(446,(eL 48)),(447,(eL 49)),(448,(eL 50)),(449,(eL 51))],Qoz,[],Qpr⟩
noncomputable def dg430:Tgt:=⟨[(443,(eL 17)),(444,(eL 0)),(445,(eL 12)),(446,(eL 48)),(447,(eL 49)),(448,(eL 50)),(449,(eL 51))],Qoz,[],Qpq⟩
noncomputable def dg431:Tgt:=⟨[(443,(eL 17)),(444,(eL 0)),(445,(eL 12)),(446,(eL 48)),(447,(eL 49)),(448,(eL 50)),(449,(eL 51))],Qoz,[],Qpp⟩
noncomputable def dg432:Tgt:=⟨[(443,(eL 1)),(444,(eL 0)),(445,(eL 12)),(446,(eL 48)),(447,(eL 49)),(448,(eL 50)),(449,(eL 51))],Qoz,[],Qpr⟩
noncomputable def dg433:Tgt:=⟨[(443,(eL 1)),(444,(eL 0)),(445,(eL 12)),(446,(eL 48)),(447,(eL 49)),(448,(eL 50)),(449,(eL 51))],Qoz,[],Qpq⟩
noncomputable def dg434:Tgt:=⟨[(443,(eL 1)),(444,(eL 0)),(445,(eL 12)),(446,(eL 48)),(447,(eL 49)),(448,(eL 50)),(449,(eL 51))],Qoz,[],Qpp⟩
noncomputable def dg435:Tgt:=⟨[(443,(eL 6)),(444,(eL 0)),(445,(eL 13)),(446,(.byte 406 (eL 0))),(447,(eL 48)),(448,(eL 49)),(449,(eL 50))],Qoz,[],Qpr⟩
noncomputable def dg436:Tgt:=⟨[(443,(eL 6)),(444,(eL 0)),(445,(eL 13)),(446,(.byte 406 (eL 0))),(447,(eL 48)),(448,(eL 49)),(449,(eL 50))],Qoz,[],Qpq⟩
noncomputable def dg437:Tgt:=⟨[(443,(eL 6)),(444,(eL 0)),(445,(eL 13)),(446,(.byte 406 (eL 0))),(447,(eL 48)),(448,(eL 49)),(449,(eL 50))],Qoz,[],Qpp⟩
noncomputable def dg438:Tgt:=⟨[(443,(eL 17)),(444,(eL 0)),(445,(eL 13)),(446,(.byte 406 (eL 0))),(447,(eL 48)),(448,(eL 49)),(449,(eL 50))],Qoz,[],Qpr⟩
noncomputable def dg439:Tgt:=⟨[(443,(eL 17)),(444,(eL 0)),(445,(eL 13)),(446,(.byte 406 (eL 0))),(447,(eL 48)),(448,(eL 49)),(449,(eL 50))],Qoz,[],Qpq⟩
noncomputable def dg440:Tgt:=⟨[(443,(eL 17)),(444,(eL 0)),(445,(eL 13)),(446,(.byte 406 (eL 0))),(447,(eL 48)),(448,(eL 49)),(449,(eL 50))],Qoz,[],Qpp⟩
noncomputable def dg441:Tgt:=⟨[(443,(eL 1)),(444,(eL 0)),(445,(eL 13)),(446,(.byte 406 (eL 0))),(447,(eL 48)),(448,(eL 49)),(449,(eL 50))],Qoz,[],Qpr⟩
noncomputable def dg442:Tgt:=⟨[(443,(eL 1)),(444,(eL 0)),(445,(eL 13)),(446,(.byte 406 (eL 0))),(447,(eL 48)),(448,(eL 49)),(449,(eL 50))],Qoz,[],Qpq⟩
noncomputable def dg443:Tgt:=⟨[(443,(eL 1)),(444,(eL 0)),(445,(eL 13)),(446,(.byte 406 (eL 0))),(447,(eL 48)),(448,(eL 49)),(449,(eL 50))],Qoz,[],Qpp⟩
noncomputable def dg444:Tgt:=⟨[(443,(eL 6)),(444,(eL 0)),(445,(eL 14)),(446,(.byte 406 (eL 0))),(447,(.byte 406 (eL 1))),(448,(eL 48)),(449,(eL 49))],Qoz,[],Qpr⟩
noncomputable def dg445:Tgt:=⟨[(443,(eL 6)),(444,(eL 0)),(445,(eL 14)),(446,(.byte 406 (eL 0))),(447,(.byte 406 (eL 1))),(448,(eL 48)),(449,(eL 49))],Qoz,[],Qpq⟩
noncomputable def dg446:Tgt:=⟨[(443,(eL 6)),(444,(eL 0)),(445,(eL 14)),(446,(.byte 406 (eL 0))),(447,(.byte 406 (eL 1))),(448,(eL 48)),(449,(eL 49))],Qoz,[],Qpp⟩
noncomputable def dg447:Tgt:=⟨[(443,(eL 17)),(444,(eL 0)),(445,(eL 14)),(446,(.byte 406 (eL 0))),(447,(.byte 406 (eL 1))),(448,(eL 48)),(449,(eL 49))],Qoz,[],Qpr⟩
noncomputable def dg448:Tgt:=⟨[(443,(eL 17)),(444,(eL 0)),(445,(eL 14)),(446,(.byte 406 (eL 0))),(447,(.byte 406 (eL 1))),(448,(eL 48)),(449,(eL 49))],Qoz,[],Qpq⟩
noncomputable def dg449:Tgt:=⟨[(443,(eL 17)),(444,(eL 0)),(445,(eL 14)),(446,(.byte 406 (eL 0))),(447,(.byte 406 (eL 1))),(448,(eL 48)),(449,(eL 49))],Qoz,[],Qpp⟩
noncomputable def dg450:Tgt:=⟨[(443,(eL 1)),(444,(eL 0)),(445,(eL 14)),(446,(.byte 406 (eL 0))),(447,(.byte 406 (eL 1))),(448,(eL 48)),(449,(eL 49))],Qoz,[],Qpr⟩
noncomputable def dg451:Tgt:=⟨[(443,(eL 1)),(444,(eL 0)),(445,(eL 14)),(446,(.byte 406 (eL 0))),(447,(.byte 406 (eL 1))),(448,(eL 48)),(449,(eL 49))],Qoz,[],Qpq⟩
noncomputable def dg452:Tgt:=⟨[(443,(eL 1)),(444,(eL 0)),(445,(eL 14)),(446,(.byte 406 (eL 0))),(447,(.byte 406 (eL 1))),(448,(eL 48)),(449,(eL 49))],Qoz,[],Qpp⟩
noncomputable def dg453:Tgt:=⟨[(443,(eL 6)),(444,(eL 0)),(445,(eL 15)),(446,(.byte 406 (eL 0))),(447,(.byte 406 (eL 1))),(448,(.byte 406 (eL 2))),(449,(eL 48))],Qoz,[],Qpr⟩
noncomputable def dg454:Tgt:=⟨[(443,(eL 6)),(444,(eL 0)),(445,(eL 15)),(446,(.byte 406 (eL 0))),(447,(.byte 406 (eL 1))),(448,(.byte 406 (eL 2))),(449,(eL 48))],Qoz,[],Qpq⟩
noncomputable def dg455:Tgt:=⟨[(443,(eL 6)),(444,(eL 0)),(445,(eL 15)),(446,(.byte 406 (eL 0))),(447,(.byte 406 (eL 1))),(448,(.byte 406 (eL 2))),(449,(eL 48))],Qoz,[],Qpp⟩
noncomputable def dg456:Tgt:=⟨[(443,(eL 17)),(444,(eL 0)),(445,(eL 15)),(446,(.byte 406 (eL 0))),(447,(.byte 406 (eL 1))),(448,(.byte 406 (eL 2))),(449,(eL 48))],Qoz,[],Qpr⟩
noncomputable def dg457:Tgt:=⟨[(443,(eL 17)),(444,(eL 0)),(445,(eL 15)),(446,(.byte 406 (eL 0))),(447,(.byte 406 (eL 1))),(448,(.byte 406 (eL 2))),(449,(eL 48))],Qoz,[],Qpq⟩
noncomputable def dg458:Tgt:=⟨[(443,(eL 17)),(444,(eL 0)),(445,(eL 15)),(446,(.byte 406 (eL 0))),(447,(.byte 406 (eL 1))),(448,(.byte 406 (eL 2))),(449,(eL 48))],Qoz,[],Qpp⟩
noncomputable def dg459:Tgt:=⟨[(443,(eL 1)),(444,(eL 0)),(445,(eL 15)),(446,(.byte 406 (eL 0))),(447,(.byte 406 (eL 1))),(448,(.byte 406 (eL 2))),(449,(eL 48))],Qoz,[],Qpr⟩
noncomputable def dg460:Tgt:=⟨[(443,(eL 1)),(444,(eL 0)),(445,(eL 15)),(446,(.byte 406 (eL 0))),(447,(.byte 406 (eL 1))),(448,(.byte 406 (eL 2))),(449,(eL 48))],Qoz,[],Qpq⟩
noncomputable def dg461:Tgt:=⟨[(443,(eL 1)),(444,(eL 0)),(445,(eL 15)),(446,(.byte 406 (eL 0))),(447,(.byte 406 (eL 1))),(448,(.byte 406 (eL 2))),(449,(eL 48))],Qoz,[],Qpp⟩
noncomputable def dg462:Tgt:=⟨[(443,(eL 6)),(444,dy1),(445,dy2),(446,(.byte 406 (eL 0))),(447,(.byte 406 (eL 1))),(448,(.byte 406 (eL 2))),(449,(.byte 406 (eL 3)))],Qoz,[],Qpr⟩
noncomputable def dg463:Tgt:=⟨[(443,(eL 6)),(444,dy1),(445,dy2),(446,(.byte 406 (eL 0))),(447,(.byte 406 (eL 1))),(448,(.byte 406 (eL 2))),(449,(.byte 406 (eL 3)))],Qoz,[],Qpq⟩
noncomputable def dg464:Tgt:=⟨[(443,(eL 6)),(444,dy1),(445,dy2),(446,(.byte 406 (eL 0))),(447,(.byte 406 (eL 1))),(448,(.byte 406 (eL 2))),(449,(.byte 406 (eL 3)))],Qoz,[],Qpp⟩
noncomputable def dg465:Tgt:=⟨[(443,(eL 17)),(444,dy1),(445,dy2),(446,(.byte 406 (eL 0))),(447,(.byte 406 (eL 1))),(448,(.byte 406 (eL 2))),(449,(.byte 406 (eL 3)))],Qoz,[],Qpr⟩
noncomputable def dg466:Tgt:=⟨[(443,(eL 17)),(444,dy1),(445,dy2),(446,(.byte 406 (eL 0))),(447,(.byte 406 (eL 1))),(448,(.byte 406 (eL 2))),(449,(.byte 406 (eL 3)))],Qoz,[],Qpq⟩
noncomputable def dg467:Tgt:=⟨[(443,(eL 17)),(444,dy1),(445,dy2),(446,(.byte 406 (eL 0))),(447,(.byte 406 (eL 1))),(448,(.byte 406 (eL 2))),(449,(.byte 406 (eL 3)))],Qoz,[],Qpp⟩
noncomputable def dg468:Tgt:=⟨[(443,(eL 1)),(444,dy1),(445,dy2),(446,(.byte 406 (eL 0))),(447,(.byte 406 (eL 1))),(448,(.byte 406 (eL 2))),(449,(.byte 406 (eL 3)))],Qoz,[],Qpr⟩
noncomputable def dg469:Tgt:=⟨[(443,(eL 1)),(444,dy1),(445,dy2),(446,(.byte 406 (eL 0))),(447,(.byte 406 (eL 1))),(448,(.byte 406 (eL 2))),(449,(.byte 406 (eL 3)))],Qoz,[],Qpq⟩
noncomputable def dg470:Tgt:=⟨[(443,(eL 1)),(444,dy1),(445,dy2),(446,(.byte 406 (eL 0))),(447,(.byte 406 (eL 1))),(448,(.byte 406 (eL 2))),(449,(.byte 406 (eL 3)))],Qoz,[],Qpp⟩
noncomputable def dg471:Tgt:=⟨[(443,(eL 6)),(444,Qqe),(445,Qqd),(446,(.byte 406 (eL 0))),(447,(.byte 406 (eL 1))),(448,(.byte 406 (eL 2))),(449,(.byte 406 (eL 3)))],Qoz,[],Qpr⟩
noncomputable def dg472:Tgt:=⟨[(443,(eL 6)),(444,Qqe),(445,Qqd),(446,(.byte 406 (eL 0))),(447,(.byte 406 (eL 1))),(448,(.byte 406 (eL 2))),(449,(.byte 406 (eL 3)))],Qoz,[],Qpq⟩
noncomputable def dg473:Tgt:=⟨[(443,(eL 6)),(444,Qqe),(445,Qqd),(446,(.byte 406 (eL 0))),(447,(.byte 406 (eL 1))),(448,(.byte 406 (eL 2))),(449,(.byte 406 (eL 3)))],Qoz,[],Qpp⟩
noncomputable def dg474:Tgt:=⟨[(443,(eL 17)),(444,Qqe),(445,Qqd),(446,(.byte 406 (eL 0))),(447,(.byte 406 (eL 1))),(448,(.byte 406 (eL 2))),(449,(.byte 406 (eL 3)))],Qoz,[],Qpr⟩
noncomputable def dg475:Tgt:=⟨[(443,(eL 17)),(444,Qqe),(445,Qqd),(446,(.byte 406 (eL 0))),(447,(.byte 406 (eL 1))),(448,(.byte 406 (eL 2))),(449,(.byte 406 (eL 3)))],Qoz,[],Qpq⟩
noncomputable def dg476:Tgt:=⟨[(443,(eL 17)),(444,Qqe),(445,Qqd),(446,(.byte 406 (eL 0))),(447,(.byte 406 (eL 1))),(448,(.byte 406 (eL 2))),(449,(.byte 406 (eL 3)))],Qoz,[],Qpp⟩
noncomputable def dg477:Tgt:=⟨[(443,(eL 1)),(444,Qqe),(445,Qqd),(446,(.byte 406 (eL 0))),(447,(.byte 406 (eL 1))),(448,(.byte 406 (eL 2))),(449,(.byte 406 (eL 3)))],Qoz,[],Qpr⟩
noncomputable def dg478:Tgt:=⟨[(443,(eL 1)),(444,Qqe),(445,Qqd),(446,(.byte 406 (eL 0))),(447,(.byte 406 (eL 1))),(448,(.byte 406 (eL 2))),(449,(.byte 406 (eL 3)))],Qoz,[],Qpq⟩
noncomputable def dg479:Tgt:=⟨[(443,(eL 1)),(444,Qqe),(445,Qqd),(446,(.byte 406 (eL 0))),(447,(.byte 406 (eL 1))),(448,(.byte 406 (eL 2))),(449,(.byte 406 (eL 3)))],Qoz,[],Qpp⟩
noncomputable def dlSf:List Tgt:=[dg0]
noncomputable def Zis:List Tgt:=[dg1]
noncomputable def Qqy:List Tgt:=[dg2,dg3,dg4,dg5,dg6,dg7]
noncomputable def Z0u:List Tgt:=[dg2,dg3,dg4,dg8,dg9,dg10,dg11,dg12,dg13,dg14,dg15,dg16]
noncomputable def Z0t:List Tgt:=[dg2,dg3,dg4,dg17,dg18,dg19,dg20,dg21,dg22,dg23,dg24,dg25]
noncomputable def Z0s:List Tgt:=[dg2,dg3,dg4,dg26,dg27,dg28,dg29,dg30,dg31,dg32,dg33,dg34]
noncomputable def Z0r:List Tgt:=[dg2,dg3,dg4,dg35,dg36,dg37,dg38,dg39,dg40,dg41,dg42,dg43]
noncomputable def Z0q:List Tgt:=[dg2,dg3,dg4,dg44,dg45,dg46,dg47,dg48,dg49,dg50,dg51,dg52]
noncomputable def Z0p:List Tgt:=[dg2,dg3,dg4,dg53,dg54,dg55,dg56,dg57,dg58,dg59,dg60,dg61]
noncomputable def Qss:List Tgt:=[dg2,dg3,dg4]
noncomputable def Qsr:List Tgt:=[dg2,dg3,dg4]
noncomputable def Qsq:List Tgt:=[dg2,dg3,dg4]
noncomputable def Z6i:List Tgt:=[dg2,dg3,dg4]
noncomputable def Qub:List Tgt:=[dg2,dg3,dg4]
noncomputable def Z6h:List Tgt:=[dg2,dg3,dg4]
noncomputable def Zir:List Tgt:=[dg62]
noncomputable def Qqx:List Tgt:=[Qyj,Qry,Qr2,dg66,dg67,dg68]
noncomputable def Z0o:List Tgt:=[Qyj,Qry,Qr2,dg69,dg70,dg71,dg72,dg73,dg74,dg75,dg76,dg77]
noncomputable def Z0n:List Tgt:=[Qyj,Qry,Qr2,dg78,dg79,dg80,dg81,dg82,dg83,dg84,dg85,dg86]
noncomputable def Z0m:List Tgt:=[Qyj,Qry,Qr2,dg87,dg88,dg89,dg90,dg91,dg92,dg93,dg94,dg95]
noncomputable def Z0l:List Tgt:=[Qyj,Qry,Qr2,dg96,dg97,dg98,dg99,dg100,dg101,dg102,dg103,dg104]
noncomputable def Z0k:List Tgt:=[Qyj,Qry,Qr2,dg105,dg106,dg107,dg108,dg109,dg110,dg111,dg112,dg113]
noncomputable def Z0j:List Tgt:=[Qyj,Qry,Qr2,dg114,dg115,dg116,dg117,dg118,dg119,dg120,dg121,dg122]
noncomputable def Qsp:List Tgt:=[Qyj,Qry,Qr2]
noncomputable def Qso:List Tgt:=[Qyj,Qry,Qr2]
noncomputable def Qsn:List Tgt:=[Qyj,Qry,Qr2]
noncomputable def Z6g:List Tgt:=[Qyj,Qry,Qr2]
noncomputable def Qu9:List Tgt:=[Qyj,Qry,Qr2]
noncomputable def Z6f:List Tgt:=[Qyj,Qry,Qr2]
noncomputable def Ziq:List Tgt:=[dg123]
noncomputable def Qqm:List Tgt:=[Qrv,Qr2,dg125,dg126,dg127]
noncomputable def Z0i:List Tgt:=[Qrv,Qr2,dg128,dg129,dg130,dg131,dg132,dg133,dg134,dg135,dg136]
noncomputable def Z0h:List Tgt:=[Qrv,Qr2,dg137,dg138,dg139,dg140,dg141,dg142,dg143,dg144,dg145]
noncomputable def Z0g:List Tgt:=[Qrv,Qr2,dg146,dg147,dg148,dg149,dg150,dg151,dg152,dg153,dg154]
noncomputable def Z0f:List Tgt:=[Qrv,Qr2,dg155,dg156,dg157,dg158,dg159,dg160,dg161,dg162,dg163]
noncomputable def Z0e:List Tgt:=[Qrv,Qr2,dg164,dg165,dg166,dg167,dg168,dg169,dg170,dg171,dg172]
noncomputable def Z0d:List Tgt:=[Qrv,Qr2,dg173,dg174,dg175,dg176,dg177,dg178,dg179,dg180,dg181]
noncomputable def Qsm:List Tgt:=[Qrv,Qr2]
noncomputable def Qsl:List Tgt:=[Qrv,Qr2]
noncomputable def Qsk:List Tgt:=[Qrv,Qr2]
noncomputable def Z6e:List Tgt:=[Qrv,Qr2]
noncomputable def Qu8:List Tgt:=[Qrv,Qr2]
noncomputable def Z6d:List Tgt:=[Qrv,Qr2]
noncomputable def Zio:List Tgt:=[dg182]
noncomputable def Qqw:List Tgt:=[Qry,Qr2,dg183,dg184,dg185]
noncomputable def Z0c:List Tgt:=[Qry,Qr2,dg186,dg187,dg188,dg189,dg190,dg191,dg192,dg193,dg194]
noncomputable def Z0b:List Tgt:=[Qry,Qr2,dg195,dg196,dg197,dg198,dg199,dg200,dg201,dg202,dg203]
noncomputable def Z0a:List Tgt:=[Qry,Qr2,dg204,dg205,dg206,dg207,dg208,dg209,dg210,dg211,dg212]
noncomputable def Z09:List Tgt:=[Qry,Qr2,dg213,dg214,dg215,dg216,dg217,dg218,dg219,dg220,dg221]
noncomputable def Z08:List Tgt:=[Qry,Qr2,dg222,dg223,dg224,dg225,dg226,dg227,dg228,dg229,dg230]
noncomputable def Z07:List Tgt:=[Qry,Qr2,dg231,dg232,dg233,dg234,dg235,dg236,dg237,dg238,dg239]
noncomputable def Qsj:List Tgt:=[Qry,Qr2]
noncomputable def Qsi:List Tgt:=[Qry,Qr2]
noncomputable def Qsh:List Tgt:=[Qry,Qr2]
noncomputable def Z6c:List Tgt:=[Qry,Qr2]
noncomputable def Qu7:List Tgt:=[Qry,Qr2]
noncomputable def Z6b:List Tgt:=[Qry,Qr2]
noncomputable def dlSt:List Tgt:=[dg240]
noncomputable def Zin:List Tgt:=[dg241]
noncomputable def Qqv:List Tgt:=[Qru,Qrt,Qrs,dg245,dg246,dg247]
noncomputable def Z06:List Tgt:=[Qru,Qrt,Qrs,dg248,dg249,dg250,dg251,dg252,dg253,dg254,dg255,dg256]
noncomputable def Z05:List Tgt:=[Qru,Qrt,Qrs,dg257,dg258,dg259,dg260,dg261,dg262,dg263,dg264,dg265]
noncomputable def Z04:List Tgt:=[Qru,Qrt,Qrs,dg266,dg267,dg268,dg269,dg270,dg271,dg272,dg273,dg274]
noncomputable def Z03:List Tgt:=[Qru,Qrt,Qrs,dg275,dg276,dg277,dg278,dg279,dg280,dg281,dg282,dg283]
noncomputable def Z02:List Tgt:=[Qru,Qrt,Qrs,dg284,dg285,dg286,dg287,dg288,dg289,dg290,dg291,dg292]
noncomputable def Z01:List Tgt:=[Qru,Qrt,Qrs,dg293,dg294,dg295,dg296,dg297,dg298,dg299,dg300,dg301]
noncomputable def Qsg:List Tgt:=[Qru,Qrt,Qrs]
noncomputable def Qsf:List Tgt:=[Qru,Qrt,Qrs]
noncomputable def Qse:List Tgt:=[Qru,Qrt,Qrs]
noncomputable def Z6a:List Tgt:=[Qru,Qrt,Qrs]
noncomputable def Qu6:List Tgt:=[Qru,Qrt,Qrs]
noncomputable def Z69:List Tgt:=[Qru,Qrt,Qrs]
noncomputable def Zim:List Tgt:=[dg302]
noncomputable def Qqu:List Tgt:=[Qrr,Qqq,Qpo,dg306,dg307,dg308]
noncomputable def Z00:List Tgt:=[Qrr,Qqq,Qpo,dg309,dg310,dg311,dg312,dg313,dg314,dg315,dg316,dg317]
noncomputable def Qzz:List Tgt:=[Qrr,Qqq,Qpo,dg318,dg319,dg320,dg321,dg322,dg323,dg324,dg325,dg326]
noncomputable def Qzy:List Tgt:=[Qrr,Qqq,Qpo,dg327,dg328,dg329,dg330,dg331,dg332,dg333,dg334,dg335]
noncomputable def Qzx:List Tgt:=[Qrr,Qqq,Qpo,dg336,dg337,dg338,dg339,dg340,dg341,dg342,dg343,dg344]
noncomputable def Qzw:List Tgt:=[Qrr,Qqq,Qpo,dg345,dg346,dg347,dg348,dg349,dg350,dg351,dg352,dg353]
noncomputable def Qzv:List Tgt:=[Qrr,Qqq,Qpo,dg354,dg355,dg356,dg357,dg358,dg359,dg360,dg361,dg362]
noncomputable def Qsd:List Tgt:=[Qrr,Qqq,Qpo]
noncomputable def Qsc:List Tgt:=[Qrr,Qqq,Qpo]
noncomputable def Qsb:List Tgt:=[Qrr,Qqq,Qpo]
noncomputable def Z68:List Tgt:=[Qrr,Qqq,Qpo]
noncomputable def Qu5:List Tgt:=[Qrr,Qqq,Qpo]
noncomputable def Z67:List Tgt:=[Qrr,Qqq,Qpo]
noncomputable def Zil:List Tgt:=[dg363]
noncomputable def Qql:List Tgt:=[Qrq,Qpo,dg365,dg366,dg367]
noncomputable def Qzu:List Tgt:=[Qrq,Qpo,dg368,dg369,dg370,dg371,dg372,dg373,dg374,dg375,dg376]
noncomputable def Qzt:List Tgt:=[Qrq,Qpo,dg377,dg378,dg379,dg380,dg381,dg382,dg383,dg384,dg385]
noncomputable def Qzs:List Tgt:=[Qrq,Qpo,dg386,dg387,dg388,dg389,dg390,dg391,dg392,dg393,dg394]
noncomputable def Qzr:List Tgt:=[Qrq,Qpo,dg395,dg396,dg397,dg398,dg399,dg400,dg401,dg402,dg403]
noncomputable def Qzq:List Tgt:=[Qrq,Qpo,dg404,dg405,dg406,dg407,dg408,dg409,dg410,dg411,dg412]
noncomputable def Qzp:List Tgt:=[Qrq,Qpo,dg413,dg414,dg415,dg416,dg417,dg418,dg419,dg420,dg421]
noncomputable def Qsa:List Tgt:=[Qrq,Qpo]
noncomputable def Qs9:List Tgt:=[Qrq,Qpo]
noncomputable def Qs8:List Tgt:=[Qrq,Qpo]
noncomputable def Z66:List Tgt:=[Qrq,Qpo]
noncomputable def Qu4:List Tgt:=[Qrq,Qpo]
noncomputable def Z65:List Tgt:=[Qrq,Qpo]
noncomputable def Zik:List Tgt:=[dg422]
noncomputable def Qqt:List Tgt:=[Qqq,Qpo,dg423,dg424,dg425]
noncomputable def Qzo:List Tgt:=[Qqq,Qpo,dg426,dg427,dg428,dg429,dg430,dg431,dg432,dg433,dg434]
noncomputable def Qzn:List Tgt:=[Qqq,Qpo,dg435,dg436,dg437,dg438,dg439,dg440,dg441,dg442,dg443]
noncomputable def Qzm:List Tgt:=[Qqq,Qpo,dg444,dg445,dg446,dg447,dg448,dg449,dg450,dg451,dg452]
noncomputable def Qzl:List Tgt:=[Qqq,Qpo,dg453,dg454,dg455,dg456,dg457,dg458,dg459,dg460,dg461]
noncomputable def Qzk:List Tgt:=[Qqq,Qpo,dg462,dg463,dg464,dg465,dg466,dg467,dg468,dg469,dg470]
noncomputable def Qzj:List Tgt:=[Qqq,Qpo,dg471,dg472,dg473,dg474,dg475,dg476,dg477,dg478,dg479]
noncomputable def Qs7:List Tgt:=[Qqq,Qpo]
noncomputable def Qs6:List Tgt:=[Qqq,Qpo]
noncomputable def Qs5:List Tgt:=[Qqq,Qpo]
noncomputable def Z64:List Tgt:=[Qqq,Qpo]
noncomputable def Qu3:List Tgt:=[Qqq,Qpo]
noncomputable def Z63:List Tgt:=[Qqq,Qpo]
noncomputable def Qwt:AM:=Zau.rdS 8000 61 62 frD
noncomputable def Qr8:AM:=Q5q Qwt [kdF 400 false]
noncomputable def Z26:AM:=Qgi (Q5q Qwt [ltF 400 1 true,kdF 400 true]) 62 6 (.str (byL 400 0))
noncomputable def Z25:AM:=Qgi (Q5q Qwt [ltF 400 2 true,ltF 400 1 false,kdF 400 true]) 62 6 (.str (byL 400 1))
noncomputable def Z24:AM:=Qgi (Q5q Qwt [ltF 400 3 true,ltF 400 2 false,ltF 400 1 false,kdF 400 true]) 62 6 (.str (byL 400 2))
noncomputable def Z23:AM:=Qgi (Q5q Qwt [ltF 400 4 true,ltF 400 3 false,ltF 400 2 false,ltF 400 1 false,kdF 400 true]) 62 6 (.str (byL 400 3))
noncomputable def Z22:AM:=Qgi (Q5q Qwt [ltF 400 60 true,ltF 400 4 false,ltF 400 3 false,ltF 400 2 false,ltF 400 1 false,kdF 400 true]) 62 6 (.sstr (.cat (.bs (byL 400 4)) (.sub (.var (400+6)) (.lit 4) (.len (400+6)))))
noncomputable def Z21:AM:=Qgi (Q5q Qwt [ltF 400 60 false,ltF 400 4 false,ltF 400 3 false,ltF 400 2 false,ltF 400 1 false,kdF 400 true]) 62 6 (.sstr (.cat (.bs (byL 400 4)) (.sub (.var (400+6)) (.lit 4) (.len (400+6)))))
noncomputable def Qws:AM:=Z6v.rdS 8000 61 62 frD
noncomputable def Qr7:AM:=Q5q Qws [kdF 400 false]
noncomputable def Z20:AM:=Qgi (Q5q Qws [ltF 400 1 true,kdF 400 true]) 62 6 (.str (byL 400 0))
noncomputable def Z1z:AM:=Qgi (Q5q Qws [ltF 400 2 true,ltF 400 1 false,kdF 400 true]) 62 6 (.str (byL 400 1))
noncomputable def Z1y:AM:=Qgi (Q5q Qws [ltF 400 3 true,ltF 400 2 false,ltF 400 1 false,kdF 400 true]) 62 6 (.str (byL 400 2))
noncomputable def Z1x:AM:=Qgi (Q5q Qws [ltF 400 4 true,ltF 400 3 false,ltF 400 2 false,ltF 400 1 false,kdF 400 true]) 62 6 (.str (byL 400 3))
noncomputable def Z1w:AM:=Qgi (Q5q Qws [ltF 400 60 true,ltF 400 4 false,ltF 400 3 false,ltF 400 2 false,ltF 400 1 false,kdF 400 true]) 62 6 (.sstr (.cat (.bs (byL 400 4)) (.sub (.var (400+6)) (.lit 4) (.len (400+6)))))
noncomputable def Z1v:AM:=Qgi (Q5q Qws [ltF 400 60 false,ltF 400 4 false,ltF 400 3 false,ltF 400 2 false,ltF 400 1 false,kdF 400 true]) 62 6 (.sstr (.cat (.bs (byL 400 4)) (.sub (.var (400+6)) (.lit 4) (.len (400+6)))))
noncomputable def Qwr:AM:=Z6u.rdS 8000 61 62 frD
noncomputable def Qr0:AM:=Q5q Qwr [kdF 400 false]
noncomputable def Z1u:AM:=Qgi (Q5q Qwr [ltF 400 1 true,kdF 400 true]) 62 6 (.str (byL 400 0))
noncomputable def Z1t:AM:=Qgi (Q5q Qwr [ltF 400 2 true,ltF 400 1 false,kdF 400 true]) 62 6 (.str (byL 400 1))
noncomputable def Z1s:AM:=Qgi (Q5q Qwr [ltF 400 3 true,ltF 400 2 false,ltF 400 1 false,kdF 400 true]) 62 6 (.str (byL 400 2))
noncomputable def Z1r:AM:=Qgi (Q5q Qwr [ltF 400 4 true,ltF 400 3 false,ltF 400 2 false,ltF 400 1 false,kdF 400 true]) 62 6 (.str (byL 400 3))
noncomputable def Z1q:AM:=Qgi (Q5q Qwr [ltF 400 60 true,ltF 400 4 false,ltF 400 3 false,ltF 400 2 false,ltF 400 1 false,kdF 400 true]) 62 6 (.sstr (.cat (.bs (byL 400 4)) (.sub (.var (400+6)) (.lit 4) (.len (400+6)))))
noncomputable def Z1p:AM:=Qgi (Q5q Qwr [ltF 400 60 false,ltF 400 4 false,ltF 400 3 false,ltF 400 2 false,ltF 400 1 false,kdF 400 true]) 62 6 (.sstr (.cat (.bs (byL 400 4)) (.sub (.var (400+6)) (.lit 4) (.len (400+6)))))
noncomputable def Qwq:AM:=Z6t.rdS 8000 61 62 frD
noncomputable def Qr6:AM:=Q5q Qwq [kdF 400 false]
noncomputable def Z1o:AM:=Qgi (Q5q Qwq [ltF 400 1 true,kdF 400 true]) 62 6 (.str (byL 400 0))
noncomputable def Z1n:AM:=Qgi (Q5q Qwq [ltF 400 2 true,ltF 400 1 false,kdF 400 true]) 62 6 (.str (byL 400 1))
noncomputable def Z1m:AM:=Qgi (Q5q Qwq [ltF 400 3 true,ltF 400 2 false,ltF 400 1 false,kdF 400 true]) 62 6 (.str (byL 400 2))
noncomputable def Z1l:AM:=Qgi (Q5q Qwq [ltF 400 4 true,ltF 400 3 false,ltF 400 2 false,ltF 400 1 false,kdF 400 true]) 62 6 (.str (byL 400 3))
noncomputable def Z1k:AM:=Qgi (Q5q Qwq [ltF 400 60 true,ltF 400 4 false,ltF 400 3 false,ltF 400 2 false,ltF 400 1 false,kdF 400 true]) 62 6 (.sstr (.cat (.bs (byL 400 4)) (.sub (.var (400+6)) (.lit 4) (.len (400+6)))))
noncomputable def Z1j:AM:=Qgi (Q5q Qwq [ltF 400 60 false,ltF 400 4 false,ltF 400 3 false,ltF 400 2 false,ltF 400 1 false,kdF 400 true]) 62 6 (.sstr (.cat (.bs (byL 400 4)) (.sub (.var (400+6)) (.lit 4) (.len (400+6)))))
noncomputable def Qwp:AM:=Zj6.rdS 8000 61 62 frD
noncomputable def Qr5:AM:=Q5q Qwp [kdF 400 false]
noncomputable def Z1i:AM:=Qgi (Q5q Qwp [ltF 400 1 true,kdF 400 true]) 62 6 (.str (byL 400 0))
noncomputable def Z1h:AM:=Qgi (Q5q Qwp [ltF 400 2 true,ltF 400 1 false,kdF 400 true]) 62 6 (.str (byL 400 1))
noncomputable def Z1g:AM:=Qgi (Q5q Qwp [ltF 400 3 true,ltF 400 2 false,ltF 400 1 false,kdF 400 true]) 62 6 (.str (byL 400 2))
noncomputable def Z1f:AM:=Qgi (Q5q Qwp [ltF 400 4 true,ltF 400 3 false,ltF 400 2 false,ltF 400 1 false,kdF 400 true]) 62 6 (.str (byL 400 3))
noncomputable def Z1e:AM:=Qgi (Q5q Qwp [ltF 400 60 true,ltF 400 4 false,ltF 400 3 false,ltF 400 2 false,ltF 400 1 false,kdF 400 true]) 62 6 (.sstr (.cat (.bs (byL 400 4)) (.sub (.var (400+6)) (.lit 4) (.len (400+6)))))
noncomputable def Z1d:AM:=Qgi (Q5q Qwp [ltF 400 60 false,ltF 400 4 false,ltF 400 3 false,ltF 400 2 false,ltF 400 1 false,kdF 400 true]) 62 6 (.sstr (.cat (.bs (byL 400 4)) (.sub (.var (400+6)) (.lit 4) (.len (400+6)))))
noncomputable def Qwo:AM:=Z6s.rdS 8000 61 62 frD
noncomputable def Qr4:AM:=Q5q Qwo [kdF 400 false]
noncomputable def Z1c:AM:=Qgi (Q5q Qwo [ltF 400 1 true,kdF 400 true]) 62 6 (.str (byL 400 0))
noncomputable def Z1b:AM:=Qgi (Q5q Qwo [ltF 400 2 true,ltF 400 1 false,kdF 400 true]) 62 6 (.str (byL 400 1))
noncomputable def Z1a:AM:=Qgi (Q5q Qwo [ltF 400 3 true,ltF 400 2 false,ltF 400 1 false,kdF 400 true]) 62 6 (.str (byL 400 2))
noncomputable def Z19:AM:=Qgi (Q5q Qwo [ltF 400 4 true,ltF 400 3 false,ltF 400 2 false,ltF 400 1 false,kdF 400 true]) 62 6 (.str (byL 400 3))
noncomputable def Z18:AM:=Qgi (Q5q Qwo [ltF 400 60 true,ltF 400 4 false,ltF 400 3 false,ltF 400 2 false,ltF 400 1 false,kdF 400 true]) 62 6 (.sstr (.cat (.bs (byL 400 4)) (.sub (.var (400+6)) (.lit 4) (.len (400+6)))))
noncomputable def Z17:AM:=Qgi (Q5q Qwo [ltF 400 60 false,ltF 400 4 false,ltF 400 3 false,ltF 400 2 false,ltF 400 1 false,kdF 400 true]) 62 6 (.sstr (.cat (.bs (byL 400 4)) (.sub (.var (400+6)) (.lit 4) (.len (400+6)))))
noncomputable def Qwn:AM:=Z6r.rdS 8000 61 62 frD
noncomputable def Qqz:AM:=Q5q Qwn [kdF 400 false]
noncomputable def Z16:AM:=Qgi (Q5q Qwn [ltF 400 1 true,kdF 400 true]) 62 6 (.str (byL 400 0))
noncomputable def Z15:AM:=Qgi (Q5q Qwn [ltF 400 2 true,ltF 400 1 false,kdF 400 true]) 62 6 (.str (byL 400 1))
noncomputable def Z14:AM:=Qgi (Q5q Qwn [ltF 400 3 true,ltF 400 2 false,ltF 400 1 false,kdF 400 true]) 62 6 (.str (byL 400 2))
noncomputable def Z13:AM:=Qgi (Q5q Qwn [ltF 400 4 true,ltF 400 3 false,ltF 400 2 false,ltF 400 1 false,kdF 400 true]) 62 6 (.str (byL 400 3))
noncomputable def Z12:AM:=Qgi (Q5q Qwn [ltF 400 60 true,ltF 400 4 false,ltF 400 3 false,ltF 400 2 false,ltF 400 1 false,kdF 400 true]) 62 6 (.sstr (.cat (.bs (byL 400 4)) (.sub (.var (400+6)) (.lit 4) (.len (400+6)))))
noncomputable def Z11:AM:=Qgi (Q5q Qwn [ltF 400 60 false,ltF 400 4 false,ltF 400 3 false,ltF 400 2 false,ltF 400 1 false,kdF 400 true]) 62 6 (.sstr (.cat (.bs (byL 400 4)) (.sub (.var (400+6)) (.lit 4) (.len (400+6)))))
noncomputable def Qwm:AM:=Z6q.rdS 8000 61 62 frD
noncomputable def Qr3:AM:=Q5q Qwm [kdF 400 false]
noncomputable def Z10:AM:=Qgi (Q5q Qwm [ltF 400 1 true,kdF 400 true]) 62 6 (.str (byL 400 0))
noncomputable def Z0z:AM:=Qgi (Q5q Qwm [ltF 400 2 true,ltF 400 1 false,kdF 400 true]) 62 6 (.str (byL 400 1))
noncomputable def Z0y:AM:=Qgi (Q5q Qwm [ltF 400 3 true,ltF 400 2 false,ltF 400 1 false,kdF 400 true]) 62 6 (.str (byL 400 2))
noncomputable def Z0x:AM:=Qgi (Q5q Qwm [ltF 400 4 true,ltF 400 3 false,ltF 400 2 false,ltF 400 1 false,kdF 400 true]) 62 6 (.str (byL 400 3))
noncomputable def Z0w:AM:=Qgi (Q5q Qwm [ltF 400 60 true,ltF 400 4 false,ltF 400 3 false,ltF 400 2 false,ltF 400 1 false,kdF 400 true]) 62 6 (.sstr (.cat (.bs (byL 400 4)) (.sub (.var (400+6)) (.lit 4) (.len (400+6)))))
noncomputable def Z0v:AM:=Qgi (Q5q Qwm [ltF 400 60 false,ltF 400 4 false,ltF 400 3 false,ltF 400 2 false,ltF 400 1 false,kdF 400 true]) 62 6 (.sstr (.cat (.bs (byL 400 4)) (.sub (.var (400+6)) (.lit 4) (.len (400+6)))))
abbrev dh0:List Pat:=[(0,3,3,5,0)]
abbrev dh1:List Pat:=[(0,3,2,4,0)]
abbrev dh2:List Pat:=[(0,3,3,5,0),(1,11,1,6,51)]
abbrev dTP (i:Nat) (ps:List Pat) (ts:List Tgt) (d:Nat) (p:List Bool) (s:AM) (n:List Nat):Prop:=Qon 5 Q0i GX 200 17 i ps ts 3 d p s n
abbrev dTQ (i:Nat) (ps:List Pat) (ts:List Tgt) (d:Nat) (p:List Bool) (s:AM):Prop:=Q9v 5 Q0i GX 200 17 i ps ts 3 d p s
end Go.Proofs.YtmfeholdlgfpbaaGreatDoor
