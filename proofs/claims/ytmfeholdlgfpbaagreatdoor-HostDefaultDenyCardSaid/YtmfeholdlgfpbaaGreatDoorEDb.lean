/-
 The law on hosts that have sent nothing: ways from its states, joined. Conditions: none.
-/
import Derived.Test.YtmfeholdlgfpbaaGreatDoorED0
import Derived.Test.YtmfeholdlgfpbaaGreatDoorED1
import Derived.Test.YtmfeholdlgfpbaaGreatDoorED2
import Derived.Test.YtmfeholdlgfpbaaGreatDoorED3
import Derived.Test.YtmfeholdlgfpbaaGreatDoorED4
import Derived.Test.YtmfeholdlgfpbaaGreatDoorED5
import Derived.Test.YtmfeholdlgfpbaaGreatDoorED6
import Derived.Test.YtmfeholdlgfpbaaGreatDoorED7
import Derived.Test.YtmfeholdlgfpbaaGreatDoorED8
import Derived.Test.YtmfeholdlgfpbaaGreatDoorED9
import Derived.Test.YtmfeholdlgfpbaaGreatDoorEDa
import Derived.Test.YtmfeholdlgfpbaaGreatDoorEDc
import Derived.Test.YtmfeholdlgfpbaaGreatDoorEAxG
namespace Go.Proofs.YtmfeholdlgfpbaaGreatDoor
open Go Go.Ax Go.RowKit Go.Proofs
theorem dqSf:dTQ 9 dh0 dlSf 3 [] (dS false):=Qon.q (by kernel_rfl) dpSf_
theorem dqBf0:dTQ 8 dh1 Zis 4 [] (dBf0.am 8000):=Qon.q (by kernel_rfl) Zij
theorem Z98:dTQ 10 dh2 Qqy 20 [] Qr8:=Q9v.both (p:=[]) (Q9v.both (p:=[true]) (Q9v.both (p:=[true,true]) (Q9v.both (p:=[true,true,true]) (Q9v.both (p:=[true,true,true,true]) (Qon.q (by kernel_rfl) Qtv) (Qon.q (by kernel_rfl) Qtw)) (Q9v.both (p:=[true,true,true,false]) (Q9v.both (p:=[true,true,true,false,true]) (Qon.q (by kernel_rfl) Qt9) (Qon.q (by kernel_rfl) Qta)) (Qon.q (by kernel_rfl) Qtx))) (Qon.q (by kernel_rfl) Qwb)) (Qon.q (by kernel_rfl) Qyh)) (Q9v.both (p:=[false]) (Q9v.both (p:=[false,true]) (Qon.q (by kernel_rfl) Qwc) (Qon.q (by kernel_rfl) Qwd)) (Q9v.both (p:=[false,false]) (Qon.q (by kernel_rfl) Zld) (Q9v.both (p:=[false,false,false]) (Qon.q (by kernel_rfl) Zl5) (Q9v.both (p:=[false,false,false,false]) (Q9v.both (p:=[false,false,false,false,true]) (Q9v.both (p:=[false,false,false,false,true,true]) (Qon.q (by kernel_rfl) Zko) (Q9v.both (p:=[false,false,false,false,true,true,false]) (Qon.q (by kernel_rfl) Zk6) (Qon.q (by kernel_rfl) Zk7))) (Q9v.both (p:=[false,false,false,false,true,false]) (Qon.q (by kernel_rfl) Zkp) (Q9v.both (p:=[false,false,false,false,true,false,false]) (Qon.q (by kernel_rfl) Zk8) (Qon.q (by kernel_rfl) Zk9)))) (Qon.q (by kernel_rfl) Zkx)))))
theorem Z9e:dTQ 9 dh2 Z0u 7 [] Z26:=Qon.q (by kernel_rfl) Z41
theorem Z9d:dTQ 9 dh2 Z0t 7 [] Z25:=Qon.q (by kernel_rfl) Z40
theorem Z9c:dTQ 9 dh2 Z0s 7 [] Z24:=Qon.q (by kernel_rfl) Z3z
theorem Z9b:dTQ 9 dh2 Z0r 7 [] Z23:=Qon.q (by kernel_rfl) Z3y
theorem Z9a:dTQ 9 dh2 Z0q 7 [] Z22:=Qon.q (by kernel_rfl) Z3x
theorem Z99:dTQ 9 dh2 Z0p 7 [] Z21:=Qon.q (by kernel_rfl) Z3w
theorem Z7u:dTQ 10 dh0 Qss 21 [] (Qqc.am 8000):=Q9v.both (p:=[]) (Qon.q (by kernel_rfl) Qzh) (Q9v.both (p:=[false]) (Qon.q (by kernel_rfl) Qy0) (Q9v.both (p:=[false,false]) (Qon.q (by kernel_rfl) Qvo) (Qon.q (by kernel_rfl) Qvp)))
theorem Z7t:dTQ 10 dh0 Qsr 21 [] (Qqb.am 8000):=Q9v.both (p:=[]) (Qon.q (by kernel_rfl) Qzg) (Q9v.both (p:=[false]) (Qon.q (by kernel_rfl) Qxz) (Q9v.both (p:=[false,false]) (Qon.q (by kernel_rfl) Qvm) (Qon.q (by kernel_rfl) Qvn)))
theorem Z7s:dTQ 10 dh0 Qsq 21 [] (Qqa.am 8000):=Q9v.both (p:=[]) (Qon.q (by kernel_rfl) Qzf) (Q9v.both (p:=[false]) (Qon.q (by kernel_rfl) Qxy) (Q9v.both (p:=[false,false]) (Qon.q (by kernel_rfl) Qvk) (Qon.q (by kernel_rfl) Qvl)))
theorem Zib:dTQ 10 dh0 Z6i 8 [] (Z4h.am 8000):=Qon.q (by kernel_rfl) Z9u
theorem Zia:dTQ 10 dh0 Qub 12 [] (Qwl.am 8000):=Q9v.both (p:=[]) (Qon.q (by kernel_rfl) Z2p) (Q9v.both (p:=[false]) (Qon.q (by kernel_rfl) Qzi) (Q9v.both (p:=[false,false]) (Qon.q (by kernel_rfl) Qy1) (Qon.q (by kernel_rfl) Qy2)))
theorem Zi9:dTQ 10 dh0 Z6h 7 [] (Z4g.am 8000):=Qon.q (by kernel_rfl) Z9t
theorem dqBf1:dTQ 8 dh1 Zir 5 [] (Zat.am 8000):=Qon.q (by kernel_rfl) Zii
theorem Z91:dTQ 10 dh2 Qqx 20 [] Qr7:=Q9v.both (p:=[]) (Q9v.both (p:=[true]) (Q9v.both (p:=[true,true]) (Q9v.both (p:=[true,true,true]) (Q9v.both (p:=[true,true,true,true]) (Qon.q (by kernel_rfl) Qts) (Qon.q (by kernel_rfl) Qtt)) (Q9v.both (p:=[true,true,true,false]) (Q9v.both (p:=[true,true,true,false,true]) (Qon.q (by kernel_rfl) Qt7) (Qon.q (by kernel_rfl) Qt8)) (Qon.q (by kernel_rfl) Qtu))) (Qon.q (by kernel_rfl) Qw8)) (Qon.q (by kernel_rfl) Qyf)) (Q9v.both (p:=[false]) (Q9v.both (p:=[false,true]) (Qon.q (by kernel_rfl) Qw9) (Qon.q (by kernel_rfl) Qwa)) (Q9v.both (p:=[false,false]) (Qon.q (by kernel_rfl) Zlc) (Q9v.both (p:=[false,false,false]) (Qon.q (by kernel_rfl) Zl4) (Q9v.both (p:=[false,false,false,false]) (Q9v.both (p:=[false,false,false,false,true]) (Q9v.both (p:=[false,false,false,false,true,true]) (Qon.q (by kernel_rfl) Zkm) (Q9v.both (p:=[false,false,false,false,true,true,false]) (Qon.q (by kernel_rfl) Zk2) (Qon.q (by kernel_rfl) Zk3))) (Q9v.both (p:=[false,false,false,false,true,false]) (Qon.q (by kernel_rfl) Zkn) (Q9v.both (p:=[false,false,false,false,true,false,false]) (Qon.q (by kernel_rfl) Zk4) (Qon.q (by kernel_rfl) Zk5)))) (Qon.q (by kernel_rfl) Zkw)))))
theorem Z97:dTQ 9 dh2 Z0o 7 [] Z20:=Qon.q (by kernel_rfl) Z3v
theorem Z96:dTQ 9 dh2 Z0n 7 [] Z1z:=Qon.q (by kernel_rfl) Z3u
theorem Z95:dTQ 9 dh2 Z0m 7 [] Z1y:=Qon.q (by kernel_rfl) Z3t
theorem Z94:dTQ 9 dh2 Z0l 7 [] Z1x:=Qon.q (by kernel_rfl) Z3s
theorem Z93:dTQ 9 dh2 Z0k 7 [] Z1w:=Qon.q (by kernel_rfl) Z3r
theorem Z92:dTQ 9 dh2 Z0j 7 [] Z1v:=Qon.q (by kernel_rfl) Z3q
theorem Z7r:dTQ 10 dh0 Qsp 21 [] (Qq9.am 8000):=Q9v.both (p:=[]) (Qon.q (by kernel_rfl) Qzd) (Q9v.both (p:=[false]) (Qon.q (by kernel_rfl) Qxv) (Q9v.both (p:=[false,false]) (Qon.q (by kernel_rfl) Qvi) (Qon.q (by kernel_rfl) Qvj)))
theorem Z7q:dTQ 10 dh0 Qso 21 [] (Qq8.am 8000):=Q9v.both (p:=[]) (Qon.q (by kernel_rfl) Qzc) (Q9v.both (p:=[false]) (Qon.q (by kernel_rfl) Qxu) (Q9v.both (p:=[false,false]) (Qon.q (by kernel_rfl) Qvg) (Qon.q (by kernel_rfl) Qvh)))
theorem Z7p:dTQ 10 dh0 Qsn 21 [] (Qq7.am 8000):=Q9v.both (p:=[]) (Qon.q (by kernel_rfl) Qzb) (Q9v.both (p:=[false]) (Qon.q (by kernel_rfl) Qxt) (Q9v.both (p:=[false,false]) (Qon.q (by kernel_rfl) Qve) (Qon.q (by kernel_rfl) Qvf)))
theorem Zi8:dTQ 10 dh0 Z6g 8 [] (Z4f.am 8000):=Qon.q (by kernel_rfl) Z9s
theorem Zi7:dTQ 10 dh0 Qu9 12 [] (Qwk.am 8000):=Q9v.both (p:=[]) (Qon.q (by kernel_rfl) Z2o) (Q9v.both (p:=[false]) (Qon.q (by kernel_rfl) Qze) (Q9v.both (p:=[false,false]) (Qon.q (by kernel_rfl) Qxw) (Qon.q (by kernel_rfl) Qxx)))
theorem Zi6:dTQ 10 dh0 Z6f 7 [] (Z4e.am 8000):=Qon.q (by kernel_rfl) Z9r
theorem dqBf2:dTQ 8 dh1 Ziq 5 [] (Zak.am 8000):=Qon.q (by kernel_rfl) Zih
theorem Z8u:dTQ 10 dh2 Qqm 20 [] Qr0:=Q9v.both (p:=[]) (Q9v.both (p:=[true]) (Q9v.both (p:=[true,true]) (Q9v.both (p:=[true,true,true]) (Q9v.both (p:=[true,true,true,true]) (Q9v.both (p:=[true,true,true,true,true]) (Qon.q (by kernel_rfl) Qt4) (Qon.q (by kernel_rfl) Qt5)) (Qon.q (by kernel_rfl) Qtq)) (Q9v.both (p:=[true,true,true,false]) (Q9v.both (p:=[true,true,true,false,true]) (Q9v.both (p:=[true,true,true,false,true,true]) (Qon.q (by kernel_rfl) Qs3) (Qon.q (by kernel_rfl) Qs4)) (Qon.q (by kernel_rfl) Qt6)) (Qon.q (by kernel_rfl) Qtr))) (Qon.q (by kernel_rfl) Qw5)) (Qon.q (by kernel_rfl) Qyd)) (Q9v.both (p:=[false]) (Q9v.both (p:=[false,true]) (Qon.q (by kernel_rfl) Qw6) (Qon.q (by kernel_rfl) Qw7)) (Q9v.both (p:=[false,false]) (Qon.q (by kernel_rfl) Zlb) (Q9v.both (p:=[false,false,false]) (Qon.q (by kernel_rfl) Zl3) (Q9v.both (p:=[false,false,false,false]) (Q9v.both (p:=[false,false,false,false,true]) (Q9v.both (p:=[false,false,false,false,true,true]) (Qon.q (by kernel_rfl) Zkk) (Q9v.both (p:=[false,false,false,false,true,true,false]) (Qon.q (by kernel_rfl) Zjy) (Qon.q (by kernel_rfl) Zjz))) (Q9v.both (p:=[false,false,false,false,true,false]) (Qon.q (by kernel_rfl) Zkl) (Q9v.both (p:=[false,false,false,false,true,false,false]) (Qon.q (by kernel_rfl) Zk0) (Qon.q (by kernel_rfl) Zk1)))) (Qon.q (by kernel_rfl) Zkv)))))
theorem Z90:dTQ 9 dh2 Z0i 7 [] Z1u:=Qon.q (by kernel_rfl) Z3p
theorem Z8z:dTQ 9 dh2 Z0h 7 [] Z1t:=Qon.q (by kernel_rfl) Z3o
theorem Z8y:dTQ 9 dh2 Z0g 7 [] Z1s:=Qon.q (by kernel_rfl) Z3n
theorem Z8x:dTQ 9 dh2 Z0f 7 [] Z1r:=Qon.q (by kernel_rfl) Z3m
theorem Z8w:dTQ 9 dh2 Z0e 7 [] Z1q:=Qon.q (by kernel_rfl) Z3l
theorem Z8v:dTQ 9 dh2 Z0d 7 [] Z1p:=Qon.q (by kernel_rfl) Z3k
theorem Z7o:dTQ 10 dh0 Qsm 21 [] (Qq6.am 8000):=Q9v.both (p:=[]) (Qon.q (by kernel_rfl) Qz9) (Q9v.both (p:=[false]) (Qon.q (by kernel_rfl) Qxq) (Q9v.both (p:=[false,false]) (Qon.q (by kernel_rfl) Qvc) (Qon.q (by kernel_rfl) Qvd)))
theorem Z7n:dTQ 10 dh0 Qsl 21 [] (Qq5.am 8000):=Q9v.both (p:=[]) (Qon.q (by kernel_rfl) Qz8) (Q9v.both (p:=[false]) (Qon.q (by kernel_rfl) Qxp) (Q9v.both (p:=[false,false]) (Qon.q (by kernel_rfl) Qva) (Qon.q (by kernel_rfl) Qvb)))
theorem Z7m:dTQ 10 dh0 Qsk 21 [] (Qq4.am 8000):=Q9v.both (p:=[]) (Qon.q (by kernel_rfl) Qz7) (Q9v.both (p:=[false]) (Qon.q (by kernel_rfl) Qxo) (Q9v.both (p:=[false,false]) (Qon.q (by kernel_rfl) Qv8) (Qon.q (by kernel_rfl) Qv9)))
theorem Zi5:dTQ 10 dh0 Z6e 8 [] (Z4d.am 8000):=Qon.q (by kernel_rfl) Z9q
theorem Zi4:dTQ 10 dh0 Qu8 12 [] (Qwj.am 8000):=Q9v.both (p:=[]) (Qon.q (by kernel_rfl) Z2n) (Q9v.both (p:=[false]) (Qon.q (by kernel_rfl) Qza) (Q9v.both (p:=[false,false]) (Qon.q (by kernel_rfl) Qxr) (Qon.q (by kernel_rfl) Qxs)))
theorem Zi3:dTQ 10 dh0 Z6d 7 [] (Z4c.am 8000):=Qon.q (by kernel_rfl) Z9p
theorem dqBf3:dTQ 8 dh1 Zio 5 [] (Zas.am 8000):=Qon.q (by kernel_rfl) Zig
theorem Z8n:dTQ 10 dh2 Qqw 20 [] Qr6:=Q9v.both (p:=[]) (Q9v.both (p:=[true]) (Q9v.both (p:=[true,true]) (Q9v.both (p:=[true,true,true]) (Q9v.both (p:=[true,true,true,true]) (Qon.q (by kernel_rfl) Qtn) (Qon.q (by kernel_rfl) Qto)) (Q9v.both (p:=[true,true,true,false]) (Q9v.both (p:=[true,true,true,false,true]) (Qon.q (by kernel_rfl) Qt2) (Qon.q (by kernel_rfl) Qt3)) (Qon.q (by kernel_rfl) Qtp))) (Qon.q (by kernel_rfl) Qw2)) (Qon.q (by kernel_rfl) Qyb)) (Q9v.both (p:=[false]) (Q9v.both (p:=[false,true]) (Qon.q (by kernel_rfl) Qw3) (Qon.q (by kernel_rfl) Qw4)) (Q9v.both (p:=[false,false]) (Qon.q (by kernel_rfl) Zla) (Q9v.both (p:=[false,false,false]) (Qon.q (by kernel_rfl) Zl2) (Q9v.both (p:=[false,false,false,false]) (Q9v.both (p:=[false,false,false,false,true]) (Q9v.both (p:=[false,false,false,false,true,true]) (Qon.q (by kernel_rfl) Zki) (Q9v.both (p:=[false,false,false,false,true,true,false]) (Qon.q (by kernel_rfl) Zju) (Qon.q (by kernel_rfl) Zjv))) (Q9v.both (p:=[false,false,false,false,true,false]) (Qon.q (by kernel_rfl) Zkj) (Q9v.both (p:=[false,false,false,false,true,false,false]) (Qon.q (by kernel_rfl) Zjw) (Qon.q (by kernel_rfl) Zjx)))) (Qon.q (by kernel_rfl) Zku)))))
theorem Z8t:dTQ 9 dh2 Z0c 7 [] Z1o:=Qon.q (by kernel_rfl) Z3j
theorem Z8s:dTQ 9 dh2 Z0b 7 [] Z1n:=Qon.q (by kernel_rfl) Z3i
theorem Z8r:dTQ 9 dh2 Z0a 7 [] Z1m:=Qon.q (by kernel_rfl) Z3h
theorem Z8q:dTQ 9 dh2 Z09 7 [] Z1l:=Qon.q (by kernel_rfl) Z3g
theorem Z8p:dTQ 9 dh2 Z08 7 [] Z1k:=Qon.q (by kernel_rfl) Z3f
theorem Z8o:dTQ 9 dh2 Z07 7 [] Z1j:=Qon.q (by kernel_rfl) Z3e
theorem Z7l:dTQ 10 dh0 Qsj 21 [] (Qq3.am 8000):=Q9v.both (p:=[]) (Qon.q (by kernel_rfl) Qz5) (Q9v.both (p:=[false]) (Qon.q (by kernel_rfl) Qxl) (Q9v.both (p:=[false,false]) (Qon.q (by kernel_rfl) Qv6) (Qon.q (by kernel_rfl) Qv7)))
theorem Z7k:dTQ 10 dh0 Qsi 21 [] (Qq2.am 8000):=Q9v.both (p:=[]) (Qon.q (by kernel_rfl) Qz4) (Q9v.both (p:=[false]) (Qon.q (by kernel_rfl) Qxk) (Q9v.both (p:=[false,false]) (Qon.q (by kernel_rfl) Qv4) (Qon.q (by kernel_rfl) Qv5)))
theorem Z7j:dTQ 10 dh0 Qsh 21 [] (Qq1.am 8000):=Q9v.both (p:=[]) (Qon.q (by kernel_rfl) Qz3) (Q9v.both (p:=[false]) (Qon.q (by kernel_rfl) Qxj) (Q9v.both (p:=[false,false]) (Qon.q (by kernel_rfl) Qv2) (Qon.q (by kernel_rfl) Qv3)))
theorem Zi2:dTQ 10 dh0 Z6c 8 [] (Z4b.am 8000):=Qon.q (by kernel_rfl) Z9o
theorem Zi1:dTQ 10 dh0 Qu7 12 [] (Qwi.am 8000):=Q9v.both (p:=[]) (Qon.q (by kernel_rfl) Z2m) (Q9v.both (p:=[false]) (Qon.q (by kernel_rfl) Qz6) (Q9v.both (p:=[false,false]) (Qon.q (by kernel_rfl) Qxm) (Qon.q (by kernel_rfl) Qxn)))
theorem Zi0:dTQ 10 dh0 Z6b 7 [] (Z4a.am 8000):=Qon.q (by kernel_rfl) Z9n
theorem dqSt:dTQ 12 dh0 dlSt 3 [] (dS true):=Qon.q (by kernel_rfl) dpSt_
theorem dqBt0:dTQ 8 dh1 Zin 4 [] (dBt0.am 8000):=Qon.q (by kernel_rfl) Zif
theorem Z8g:dTQ 10 dh2 Qqv 20 [] Qr5:=Q9v.both (p:=[]) (Q9v.both (p:=[true]) (Q9v.both (p:=[true,true]) (Q9v.both (p:=[true,true,true]) (Q9v.both (p:=[true,true,true,true]) (Qon.q (by kernel_rfl) Qtk) (Qon.q (by kernel_rfl) Qtl)) (Q9v.both (p:=[true,true,true,false]) (Q9v.both (p:=[true,true,true,false,true]) (Qon.q (by kernel_rfl) Qt0) (Qon.q (by kernel_rfl) Qt1)) (Qon.q (by kernel_rfl) Qtm))) (Qon.q (by kernel_rfl) Qvz)) (Qon.q (by kernel_rfl) Qy9)) (Q9v.both (p:=[false]) (Q9v.both (p:=[false,true]) (Qon.q (by kernel_rfl) Qw0) (Qon.q (by kernel_rfl) Qw1)) (Q9v.both (p:=[false,false]) (Qon.q (by kernel_rfl) Zl9) (Q9v.both (p:=[false,false,false]) (Qon.q (by kernel_rfl) Zl1) (Q9v.both (p:=[false,false,false,false]) (Q9v.both (p:=[false,false,false,false,true]) (Q9v.both (p:=[false,false,false,false,true,true]) (Qon.q (by kernel_rfl) Zkg) (Q9v.both (p:=[false,false,false,false,true,true,false]) (Qon.q (by kernel_rfl) Zjq) (Qon.q (by kernel_rfl) Zjr))) (Q9v.both (p:=[false,false,false,false,true,false]) (Qon.q (by kernel_rfl) Zkh) (Q9v.both (p:=[false,false,false,false,true,false,false]) (Qon.q (by kernel_rfl) Zjs) (Qon.q (by kernel_rfl) Zjt)))) (Qon.q (by kernel_rfl) Zkt)))))
theorem Z8m:dTQ 9 dh2 Z06 7 [] Z1i:=Qon.q (by kernel_rfl) Z3d
theorem Z8l:dTQ 9 dh2 Z05 7 [] Z1h:=Qon.q (by kernel_rfl) Z3c
theorem Z8k:dTQ 9 dh2 Z04 7 [] Z1g:=Qon.q (by kernel_rfl) Z3b
theorem Z8j:dTQ 9 dh2 Z03 7 [] Z1f:=Qon.q (by kernel_rfl) Z3a
theorem Z8i:dTQ 9 dh2 Z02 7 [] Z1e:=Qon.q (by kernel_rfl) Z39
theorem Z8h:dTQ 9 dh2 Z01 7 [] Z1d:=Qon.q (by kernel_rfl) Z38
theorem Z7i:dTQ 10 dh0 Qsg 21 [] (Qq0.am 8000):=Q9v.both (p:=[]) (Qon.q (by kernel_rfl) Qz1) (Q9v.both (p:=[false]) (Qon.q (by kernel_rfl) Qxg) (Q9v.both (p:=[false,false]) (Qon.q (by kernel_rfl) Qv0) (Qon.q (by kernel_rfl) Qv1)))
theorem Z7h:dTQ 10 dh0 Qsf 21 [] (Qpz.am 8000):=Q9v.both (p:=[]) (Qon.q (by kernel_rfl) Qz0) (Q9v.both (p:=[false]) (Qon.q (by kernel_rfl) Qxf) (Q9v.both (p:=[false,false]) (Qon.q (by kernel_rfl) Quy) (Qon.q (by kernel_rfl) Quz)))
theorem Z7g:dTQ 10 dh0 Qse 21 [] (Qpy.am 8000):=Q9v.both (p:=[]) (Qon.q (by kernel_rfl) Qyz) (Q9v.both (p:=[false]) (Qon.q (by kernel_rfl) Qxe) (Q9v.both (p:=[false,false]) (Qon.q (by kernel_rfl) Quw) (Qon.q (by kernel_rfl) Qux)))
theorem Zhz:dTQ 10 dh0 Z6a 8 [] (Z49.am 8000):=Qon.q (by kernel_rfl) Z9m
theorem Zhy:dTQ 10 dh0 Qu6 12 [] (Qwh.am 8000):=Q9v.both (p:=[]) (Qon.q (by kernel_rfl) Z2l) (Q9v.both (p:=[false]) (Qon.q (by kernel_rfl) Qz2) (Q9v.both (p:=[false,false]) (Qon.q (by kernel_rfl) Qxh) (Qon.q (by kernel_rfl) Qxi)))
theorem Zhx:dTQ 10 dh0 Z69 7 [] (Z48.am 8000):=Qon.q (by kernel_rfl) Z9l
theorem dqBt1:dTQ 8 dh1 Zim 5 [] (Zar.am 8000):=Qon.q (by kernel_rfl) Zie
theorem Z89:dTQ 10 dh2 Qqu 20 [] Qr4:=Q9v.both (p:=[]) (Q9v.both (p:=[true]) (Q9v.both (p:=[true,true]) (Q9v.both (p:=[true,true,true]) (Q9v.both (p:=[true,true,true,true]) (Qon.q (by kernel_rfl) Qth) (Qon.q (by kernel_rfl) Qti)) (Q9v.both (p:=[true,true,true,false]) (Q9v.both (p:=[true,true,true,false,true]) (Qon.q (by kernel_rfl) Qsy) (Qon.q (by kernel_rfl) Qsz)) (Qon.q (by kernel_rfl) Qtj))) (Qon.q (by kernel_rfl) Qvw)) (Qon.q (by kernel_rfl) Qy7)) (Q9v.both (p:=[false]) (Q9v.both (p:=[false,true]) (Qon.q (by kernel_rfl) Qvx) (Qon.q (by kernel_rfl) Qvy)) (Q9v.both (p:=[false,false]) (Qon.q (by kernel_rfl) Zl8) (Q9v.both (p:=[false,false,false]) (Qon.q (by kernel_rfl) Zl0) (Q9v.both (p:=[false,false,false,false]) (Q9v.both (p:=[false,false,false,false,true]) (Q9v.both (p:=[false,false,false,false,true,true]) (Qon.q (by kernel_rfl) Zke) (Q9v.both (p:=[false,false,false,false,true,true,false]) (Qon.q (by kernel_rfl) Zjm) (Qon.q (by kernel_rfl) Zjn))) (Q9v.both (p:=[false,false,false,false,true,false]) (Qon.q (by kernel_rfl) Zkf) (Q9v.both (p:=[false,false,false,false,true,false,false]) (Qon.q (by kernel_rfl) Zjo) (Qon.q (by kernel_rfl) Zjp)))) (Qon.q (by kernel_rfl) Zks)))))
theorem Z8f:dTQ 9 dh2 Z00 7 [] Z1c:=Qon.q (by kernel_rfl) Z37
theorem Z8e:dTQ 9 dh2 Qzz 7 [] Z1b:=Qon.q (by kernel_rfl) Z36
theorem Z8d:dTQ 9 dh2 Qzy 7 [] Z1a:=Qon.q (by kernel_rfl) Z35
theorem Z8c:dTQ 9 dh2 Qzx 7 [] Z19:=Qon.q (by kernel_rfl) Z34
theorem Z8b:dTQ 9 dh2 Qzw 7 [] Z18:=Qon.q (by kernel_rfl) Z33
theorem Z8a:dTQ 9 dh2 Qzv 7 [] Z17:=Qon.q (by kernel_rfl) Z32
theorem Z7f:dTQ 10 dh0 Qsd 21 [] (Qpx.am 8000):=Q9v.both (p:=[]) (Qon.q (by kernel_rfl) Qyx) (Q9v.both (p:=[false]) (Qon.q (by kernel_rfl) Qxb) (Q9v.both (p:=[false,false]) (Qon.q (by kernel_rfl) Quu) (Qon.q (by kernel_rfl) Quv)))
theorem Z7e:dTQ 10 dh0 Qsc 21 [] (Qpw.am 8000):=Q9v.both (p:=[]) (Qon.q (by kernel_rfl) Qyw) (Q9v.both (p:=[false]) (Qon.q (by kernel_rfl) Qxa) (Q9v.both (p:=[false,false]) (Qon.q (by kernel_rfl) Qus) (Qon.q (by kernel_rfl) Qut)))
theorem Z7d:dTQ 10 dh0 Qsb 21 [] (Qpv.am 8000):=Q9v.both (p:=[]) (Qon.q (by kernel_rfl) Qyv) (Q9v.both (p:=[false]) (Qon.q (by kernel_rfl) Qx9) (Q9v.both (p:=[false,false]) (Qon.q (by kernel_rfl) Quq) (Qon.q (by kernel_rfl) Qur)))
theorem Zhw:dTQ 10 dh0 Z68 8 [] (Z47.am 8000):=Qon.q (by kernel_rfl) Z9k
theorem Zhv:dTQ 10 dh0 Qu5 12 [] (Qwg.am 8000):=Q9v.both (p:=[]) (Qon.q (by kernel_rfl) Z2k) (Q9v.both (p:=[false]) (Qon.q (by kernel_rfl) Qyy) (Q9v.both (p:=[false,false]) (Qon.q (by kernel_rfl) Qxc) (Qon.q (by kernel_rfl) Qxd)))
theorem Zhu:dTQ 10 dh0 Z67 7 [] (Z46.am 8000):=Qon.q (by kernel_rfl) Z9j
theorem dqBt2:dTQ 8 dh1 Zil 5 [] (Zaj.am 8000):=Qon.q (by kernel_rfl) Zid
theorem Z82:dTQ 10 dh2 Qql 20 [] Qqz:=Q9v.both (p:=[]) (Q9v.both (p:=[true]) (Q9v.both (p:=[true,true]) (Q9v.both (p:=[true,true,true]) (Q9v.both (p:=[true,true,true,true]) (Q9v.both (p:=[true,true,true,true,true]) (Qon.q (by kernel_rfl) Qsv) (Qon.q (by kernel_rfl) Qsw)) (Qon.q (by kernel_rfl) Qtf)) (Q9v.both (p:=[true,true,true,false]) (Q9v.both (p:=[true,true,true,false,true]) (Q9v.both (p:=[true,true,true,false,true,true]) (Qon.q (by kernel_rfl) Qs1) (Qon.q (by kernel_rfl) Qs2)) (Qon.q (by kernel_rfl) Qsx)) (Qon.q (by kernel_rfl) Qtg))) (Qon.q (by kernel_rfl) Qvt)) (Qon.q (by kernel_rfl) Qy5)) (Q9v.both (p:=[false]) (Q9v.both (p:=[false,true]) (Qon.q (by kernel_rfl) Qvu) (Qon.q (by kernel_rfl) Qvv)) (Q9v.both (p:=[false,false]) (Qon.q (by kernel_rfl) Zl7) (Q9v.both (p:=[false,false,false]) (Qon.q (by kernel_rfl) Zkz) (Q9v.both (p:=[false,false,false,false]) (Q9v.both (p:=[false,false,false,false,true]) (Q9v.both (p:=[false,false,false,false,true,true]) (Qon.q (by kernel_rfl) Zkc) (Q9v.both (p:=[false,false,false,false,true,true,false]) (Qon.q (by kernel_rfl) Zji) (Qon.q (by kernel_rfl) Zjj))) (Q9v.both (p:=[false,false,false,false,true,false]) (Qon.q (by kernel_rfl) Zkd) (Q9v.both (p:=[false,false,false,false,true,false,false]) (Qon.q (by kernel_rfl) Zjk) (Qon.q (by kernel_rfl) Zjl)))) (Qon.q (by kernel_rfl) Zkr)))))
theorem Z88:dTQ 9 dh2 Qzu 7 [] Z16:=Qon.q (by kernel_rfl) Z31
theorem Z87:dTQ 9 dh2 Qzt 7 [] Z15:=Qon.q (by kernel_rfl) Z30
theorem Z86:dTQ 9 dh2 Qzs 7 [] Z14:=Qon.q (by kernel_rfl) Z2z
theorem Z85:dTQ 9 dh2 Qzr 7 [] Z13:=Qon.q (by kernel_rfl) Z2y
theorem Z84:dTQ 9 dh2 Qzq 7 [] Z12:=Qon.q (by kernel_rfl) Z2x
theorem Z83:dTQ 9 dh2 Qzp 7 [] Z11:=Qon.q (by kernel_rfl) Z2w
theorem Z7c:dTQ 10 dh0 Qsa 21 [] (Qpu.am 8000):=Q9v.both (p:=[]) (Qon.q (by kernel_rfl) Qyt) (Q9v.both (p:=[false]) (Qon.q (by kernel_rfl) Qx6) (Q9v.both (p:=[false,false]) (Qon.q (by kernel_rfl) Quo) (Qon.q (by kernel_rfl) Qup)))
theorem Z7b:dTQ 10 dh0 Qs9 21 [] (Qpt.am 8000):=Q9v.both (p:=[]) (Qon.q (by kernel_rfl) Qys) (Q9v.both (p:=[false]) (Qon.q (by kernel_rfl) Qx5) (Q9v.both (p:=[false,false]) (Qon.q (by kernel_rfl) Qum) (Qon.q (by kernel_rfl) Qun)))
theorem Z7a:dTQ 10 dh0 Qs8 21 [] (Qps.am 8000):=Q9v.both (p:=[]) (Qon.q (by kernel_rfl) Qyr) (Q9v.both (p:=[false]) (Qon.q (by kernel_rfl) Qx4) (Q9v.both (p:=[false,false]) (Qon.q (by kernel_rfl) Quk) (Qon.q (by kernel_rfl) Qul)))
theorem Zht:dTQ 10 dh0 Z66 8 [] (Z45.am 8000):=Qon.q (by kernel_rfl) Z9i
theorem Zhs:dTQ 10 dh0 Qu4 12 [] (Qwf.am 8000):=Q9v.both (p:=[]) (Qon.q (by kernel_rfl) Z2j) (Q9v.both (p:=[false]) (Qon.q (by kernel_rfl) Qyu) (Q9v.both (p:=[false,false]) (Qon.q (by kernel_rfl) Qx7) (Qon.q (by kernel_rfl) Qx8)))
theorem Zhr:dTQ 10 dh0 Z65 7 [] (Z44.am 8000):=Qon.q (by kernel_rfl) Z9h
theorem dqBt3:dTQ 8 dh1 Zik 5 [] (Zaq.am 8000):=Qon.q (by kernel_rfl) Zic
theorem Z7v:dTQ 10 dh2 Qqt 20 [] Qr3:=Q9v.both (p:=[]) (Q9v.both (p:=[true]) (Q9v.both (p:=[true,true]) (Q9v.both (p:=[true,true,true]) (Q9v.both (p:=[true,true,true,true]) (Qon.q (by kernel_rfl) Qtc) (Qon.q (by kernel_rfl) Qtd)) (Q9v.both (p:=[true,true,true,false]) (Q9v.both (p:=[true,true,true,false,true]) (Qon.q (by kernel_rfl) Qst) (Qon.q (by kernel_rfl) Qsu)) (Qon.q (by kernel_rfl) Qte))) (Qon.q (by kernel_rfl) Qvq)) (Qon.q (by kernel_rfl) Qy3)) (Q9v.both (p:=[false]) (Q9v.both (p:=[false,true]) (Qon.q (by kernel_rfl) Qvr) (Qon.q (by kernel_rfl) Qvs)) (Q9v.both (p:=[false,false]) (Qon.q (by kernel_rfl) Zl6) (Q9v.both (p:=[false,false,false]) (Qon.q (by kernel_rfl) Zky) (Q9v.both (p:=[false,false,false,false]) (Q9v.both (p:=[false,false,false,false,true]) (Q9v.both (p:=[false,false,false,false,true,true]) (Qon.q (by kernel_rfl) Zka) (Q9v.both (p:=[false,false,false,false,true,true,false]) (Qon.q (by kernel_rfl) Zje) (Qon.q (by kernel_rfl) Zjf))) (Q9v.both (p:=[false,false,false,false,true,false]) (Qon.q (by kernel_rfl) Zkb) (Q9v.both (p:=[false,false,false,false,true,false,false]) (Qon.q (by kernel_rfl) Zjg) (Qon.q (by kernel_rfl) Zjh)))) (Qon.q (by kernel_rfl) Zkq)))))
theorem Z81:dTQ 9 dh2 Qzo 7 [] Z10:=Qon.q (by kernel_rfl) Z2v
theorem Z80:dTQ 9 dh2 Qzn 7 [] Z0z:=Qon.q (by kernel_rfl) Z2u
theorem Z7z:dTQ 9 dh2 Qzm 7 [] Z0y:=Qon.q (by kernel_rfl) Z2t
theorem Z7y:dTQ 9 dh2 Qzl 7 [] Z0x:=Qon.q (by kernel_rfl) Z2s
theorem Z7x:dTQ 9 dh2 Qzk 7 [] Z0w:=Qon.q (by kernel_rfl) Z2r
theorem Z7w:dTQ 9 dh2 Qzj 7 [] Z0v:=Qon.q (by kernel_rfl) Z2q
theorem Z79:dTQ 10 dh0 Qs7 21 [] (Qpr.am 8000):=Q9v.both (p:=[]) (Qon.q (by kernel_rfl) Qyp) (Q9v.both (p:=[false]) (Qon.q (by kernel_rfl) Qx1) (Q9v.both (p:=[false,false]) (Qon.q (by kernel_rfl) Qui) (Qon.q (by kernel_rfl) Quj)))
theorem Z78:dTQ 10 dh0 Qs6 21 [] (Qpq.am 8000):=Q9v.both (p:=[]) (Qon.q (by kernel_rfl) Qyo) (Q9v.both (p:=[false]) (Qon.q (by kernel_rfl) Qx0) (Q9v.both (p:=[false,false]) (Qon.q (by kernel_rfl) Qug) (Qon.q (by kernel_rfl) Quh)))
theorem Z77:dTQ 10 dh0 Qs5 21 [] (Qpp.am 8000):=Q9v.both (p:=[]) (Qon.q (by kernel_rfl) Qyn) (Q9v.both (p:=[false]) (Qon.q (by kernel_rfl) Qwz) (Q9v.both (p:=[false,false]) (Qon.q (by kernel_rfl) Que) (Qon.q (by kernel_rfl) Quf)))
theorem Zhq:dTQ 10 dh0 Z64 8 [] (Z43.am 8000):=Qon.q (by kernel_rfl) Z9g
theorem Zhp:dTQ 10 dh0 Qu3 12 [] (Qwe.am 8000):=Q9v.both (p:=[]) (Qon.q (by kernel_rfl) Z2i) (Q9v.both (p:=[false]) (Qon.q (by kernel_rfl) Qyq) (Q9v.both (p:=[false,false]) (Qon.q (by kernel_rfl) Qx2) (Qon.q (by kernel_rfl) Qx3)))
theorem Zho:dTQ 10 dh0 Z63 7 [] (Z42.am 8000):=Qon.q (by kernel_rfl) Z9f
end Go.Proofs.YtmfeholdlgfpbaaGreatDoor
namespace Go.Proofs.YtmfeholdlgfpbaaGreatDoor
open Go Go.Ax Go.RowKit Go.Proofs
structure KD (pl:Ax.Place) (n:Nat) (X:Ext):Prop where
 b:X.V 14=some pl
 l:X.O.int 16=n
structure Qrp (n0:Nat) (w0:World) (pl:Ax.Place) (n:Nat):Prop where
 lt:pl.blk<n0
 cell:∀i,i<n->∃vals:List Value,vals.length=19/\Sp.yB frD vals/\∀j u,vals[j]?=some u->w0.cell? ⟨pl.blk,pl.base+i*19+j,none⟩=some u
abbrev DF:FuncId:=3
noncomputable def Ziw:List Oper:=match Zau.fr.fr.cur with
 | .reg ops _ _=>ops
 |_=>[]
theorem d_ops:∃o1 o2 rest,Ziw.drop 2=o1::o2::rest/\o1.guard=none/\o2.guard=none/\o1.dst=some 61/\o2.dst=some 62/\o1.op= .indexAddr 22 (.tmp 59) (.tmp 60)/\o2.op= .load 46 (.tmp 61):=⟨_,_,_,rfl,rfl,rfl,rfl,rfl,rfl,rfl⟩
noncomputable def dL (n:Nat):List AV:=match Sp.qX frD n with
 |some r=>r.v
 |none=>[]
def okT (q:Tgt):Bool:=q.keep.any (Nat.beq 14)&&(q.t.vs.any (Nat.beq 16)&&(q.U.all (λp=>!Nat.beq p.1 16)&&(match q.π with|[]=>true|_=>false)))
theorem Qwu {i:Nat}:∀{U:Sb},U.all (λp=>!Nat.beq p.1 i)=true->U.at i= .var i
 |[],_=>rfl
 |p::U,h=>by simp only [List.all_cons,Bool.and_eq_true,Bool.not_eq_true'] at h;simp only [Sb.at,h.1,cond_false];exact Qwu h.2
section
variable {n0:Nat} {w0:World} {cs0:List Frame} {pl:Ax.Place} {n:Nat}
def DG (n0:Nat) (w0:World) (cs0:List Frame) (pl:Ax.Place) (n:Nat) (J:Nat) (z:Int) (s:AM):Prop:=∀X m,KD pl n X->X.O.int J=z->Sim Tryz.prog GX n0 w0 cs0 X s m->Qp Tryz.prog n0 w0 cs0 DF m
def DT (n0:Nat) (w0:World) (cs0:List Frame) (pl:Ax.Place) (n:Nat) (J:Nat) (z:Int) (q:Tgt):Prop:=∀Y X' m',KD pl n Y->Y.O.int J=z->Yz q.U q.t.vs (QK GX.T.ng q.keep) (Q85 q.π) Y X' ->Sim Tryz.prog GX n0 w0 cs0 X' (q.t.am 8000) m' ->Qp Tryz.prog n0 w0 cs0 DF m'
theorem fn_ {α:Type} {p:α->Prop}:∀x∈([]:List α),p x:=λx h=>by cases h
theorem fc {α:Type} {p:α->Prop} {a:α} {l:List α} (h1:p a) (h2:∀x∈l,p x):∀x∈a::l,p x:=λx h=>by rcases List.mem_cons.1 h with rfl|h;exact h1;exact h2 x h
theorem dtgt {q:Tgt} {J J' :Nat} {z z' :Int} (hk:okT q=true) (hJ:q.t.vs.any (Nat.beq J')=true) (hz:∀O:Val,O.int J=z->(q.U.at J').den O=z') (g:DG n0 w0 cs0 pl n J' z' (q.t.am 8000)):DT n0 w0 cs0 pl n J z q:=by
 intro Y X' m' hY hJz hc h;simp only [okT,Bool.and_eq_true] at hk;obtain ⟨k1,k2,k3,k4⟩:=hk;refine g X' m' ⟨?_,?_⟩ ?_ h;rw [hc.kept 14 (by unfold QK;rw [k1,Bool.or_true])];have e:Q85 q.π 14=14:=by
  cases hq:q.π with
  |nil=>rfl
  |cons a l=>rw [hq] at k4;cases k4
 rw [e];exact hY.b;have:=(hc.letters 16 (any_beq k2)).2.1
 rw [Qwu k3] at this;exact this.trans hY.l;rw [(hc.letters J' (any_beq hJ)).2.1];exact hz _ hJz
theorem Qos {q:Tgt} {J:Nat} {z:Int} (g:DG n0 w0 cs0 pl n J z (q.t.am 8000)) (hk:okT q=true:=by kernel_rfl) (hJ:q.t.vs.any (Nat.beq J)=true:=by kernel_rfl) (hv:q.U.at J= .var J:=by kernel_rfl):DT n0 w0 cs0 pl n J z q:=dtgt hk hJ (λO h=>by rw [hv];exact h) g
theorem Qot {q:Tgt} {I:Nat} {z:Nat} (hz:z<30) (g:DG n0 w0 cs0 pl n I ((z+1:Nat):Int) (q.t.am 8000)) (hk:okT q=true:=by kernel_rfl) (hJ:q.t.vs.any (Nat.beq I)=true:=by kernel_rfl) (hv:q.U.at I= .bin .add .i64 (.var I) (.lit (.ofNat 1)):=by kernel_rfl):DT n0 w0 cs0 pl n I (z:Int) q:=dtgt hk hJ (λO h=>by rw [hv];simp only [E.den,Zp,h,Int.ofNat_eq_natCast];rw [Ax.wrap_within (by simp only [kLo];omega) (by simp only [kHi];omega)];omega) g
theorem Qox {q:Tgt} {I:Nat} (g:DG n0 w0 cs0 pl n I 1 (q.t.am 8000)) (hk:okT q=true:=by kernel_rfl) (hJ:q.t.vs.any (Nat.beq I)=true:=by kernel_rfl) (hv:q.U.at I= .lit (.ofNat 1):=by kernel_rfl):DT n0 w0 cs0 pl n 16 (n:Int) q:=dtgt hk hJ (λO h=>by rw [hv];rfl) g
theorem Qou {q:Tgt} {J:Nat} {z:Int} (g:DG n0 w0 cs0 pl n 16 (n:Int) (q.t.am 8000)) (hk:okT q=true:=by kernel_rfl):DT n0 w0 cs0 pl n J z q:=by
 intro Y X' m' hY hJz hc h;have k2:q.t.vs.any (Nat.beq 16)=true:=by simp only [okT,Bool.and_eq_true] at hk;exact hk.2.1
 have k3:q.U.all (λp=>!Nat.beq p.1 16)=true:=by simp only [okT,Bool.and_eq_true] at hk;exact hk.2.2.1
 exact dtgt (J:=16) (z:=(n:Int)) hk k2 (λO h=>by rw [Qwu k3];exact h) g Y X' m' hY hY.l hc h
theorem Qov {L n' k i d:Nat} {ps:List Pat} {ts:List Tgt} {s:AM} {J:Nat} {z:Int} (hh:Q9v L Q0i GX n' k i ps ts DF d [] s) (he:∀q∈ts,DT n0 w0 cs0 pl n J z q) (h16:s.ctx.vs.any (Nat.beq 16)=true:=by kernel_rfl) (hJ:s.ctx.vs.any (Nat.beq J)=true:=by kernel_rfl):DG n0 w0 cs0 pl n J z s:=λX m hX hz h=>Q9v.ends Qqs Qr1 Qyk Qi8 (room:=8000) hh (λq hq Y X' m' hle hc h' =>he q hq Y X' m' ⟨hle.V _ _ hX.b,by rw [(hle.O 16 (h.ctx.1 16 (any_beq h16))).1];exact hX.l⟩ (by rw [(hle.O J (h.ctx.1 J (any_beq hJ))).1];exact hz) hc h') h
theorem Qrx {t:StG} {J:Nat} {z:Int} {e:E} {i:Nat} (hI:Qrp n0 w0 pl n) (hcur:t.fr.fr.cur= .reg Ziw 2 (Ziw.drop 2)) (hcs:t.cs=[]) (hnt:t.fr.fr.nt=150) (ha:(t.am 8000).fr.tm.get 59=some (.wslice 14 0 0 19 16)) (hi:(t.am 8000).fr.tm.get 60=some (.int .i64 e))
 (hJ:t.vs.any (Nat.beq J)=true) (h16:t.vs.any (Nat.beq 16)=true) {r:InL} (hr:Sp.qX frD t.next=some r) (hfree:t.l.all (λq=>Nat.blt q.1 t.next)=true) (hden:∀O:Val,O.int J=z->e.den O=(i:Int))
 (hret:(t.rdS 8000 61 62 frD).fr.ret=false) (hc2:(t.rdS 8000 61 62 frD).fr.cur= .reg Ziw 4 (Ziw.drop 4)) (hg:(t.rdS 8000 61 62 frD).fr.tm.get 62=some (.agg (dL t.next))) (hi6:(dL t.next)[6]?=some (.sstr (.var (t.next+6))))
 (hk:(E.pk 7 (.var t.next)).okB (t.rdS 8000 61 62 frD).ctx.vs=true) (hl:(E.len (t.next+6)).okB (t.rdS 8000 61 62 frD).ctx.vs=true) (hmost:(t.rdS 8000 61 62 frD).ctx.fs[12]?=some ⟨.leq, .len (t.next+6), .lit (.ofNat 9223372036854775807),true⟩)
 (hlt:∀X:Ext,KD pl n X->X.O.int J=z->(⟨t.fs,t.vs⟩:Ctx).okN X.dom X.O->i<n)
 (hn:DG n0 w0 cs0 pl n J z (Q5q (t.rdS 8000 61 62 frD) [kdF t.next false]))
 (h0:DG n0 w0 cs0 pl n J z (Qgi (Q5q (t.rdS 8000 61 62 frD) [ltF t.next 1 true,kdF t.next true]) 62 6 (.str (byL t.next 0))))
 (h1:DG n0 w0 cs0 pl n J z (Qgi (Q5q (t.rdS 8000 61 62 frD) [ltF t.next 2 true,ltF t.next 1 false,kdF t.next true]) 62 6 (.str (byL t.next 1))))
 (h2:DG n0 w0 cs0 pl n J z (Qgi (Q5q (t.rdS 8000 61 62 frD) [ltF t.next 3 true,ltF t.next 2 false,ltF t.next 1 false,kdF t.next true]) 62 6 (.str (byL t.next 2))))
 (h3:DG n0 w0 cs0 pl n J z (Qgi (Q5q (t.rdS 8000 61 62 frD) [ltF t.next 4 true,ltF t.next 3 false,ltF t.next 2 false,ltF t.next 1 false,kdF t.next true]) 62 6 (.str (byL t.next 3))))
 (h4:DG n0 w0 cs0 pl n J z (Qgi (Q5q (t.rdS 8000 61 62 frD) [ltF t.next 60 true,ltF t.next 4 false,ltF t.next 3 false,ltF t.next 2 false,ltF t.next 1 false,kdF t.next true]) 62 6 (.sstr (.cat (.bs (byL t.next 4)) (.sub (.var (t.next+6)) (.lit 4) (.len (t.next+6)))))))
 (h5:DG n0 w0 cs0 pl n J z (Qgi (Q5q (t.rdS 8000 61 62 frD) [ltF t.next 60 false,ltF t.next 4 false,ltF t.next 3 false,ltF t.next 2 false,ltF t.next 1 false,kdF t.next true]) 62 6 (.sstr (.cat (.bs (byL t.next 4)) (.sub (.var (t.next+6)) (.lit 4) (.len (t.next+6))))))):
 DG n0 w0 cs0 pl n J z (t.am 8000):=λX m hX hz h=>by
 obtain ⟨o1,o2,rest,q1,q2,q3,q4,q5,q6,q7⟩:=d_ops;have hin:=hlt X hX hz h.ctx;obtain ⟨Y,m',st,hle,hs⟩:=Sim.readS (t:=t) (room:=8000) (es:=19) Qqs Qr1 Qi8 h (by rw [hcur,q1]) hcs q2 q3 q4 q5 (by decide) (by rw [hnt];decide) (by rw [hnt];decide) q6 q7
  (show GX.T.ty 22=some ti22 by kernel_rfl) rfl (show GX.T.ty 46=some ti46 by kernel_rfl) rfl (show GX.T.ty 46=some ti46 by kernel_rfl) rfl rfl ha hi
  (by rw [hden _ hz];omega) (by rw [hden _ hz,hX.l];omega) hX.b hI.lt hX.l (by rfl) hr (λi hin=>hI.cell i hin) hfree
 have hY:KD pl n Y:=⟨hle.V _ _ hX.b,by rw [(hle.O 16 (h.ctx.1 16 (any_beq h16))).1];exact hX.l⟩;have hzY:Y.O.int J=z:=by rw [(hle.O J (h.ctx.1 J (any_beq hJ))).1];exact hz
 exact .of_steps st (hs.rounds hret hc2 hg hi6 hk hl (List.mem_of_getElem? hmost) (hn Y m' hY hzY) (h0 Y m' hY hzY) (h1 Y m' hY hzY) (h2 Y m' hY hzY) (h3 Y m' hY hzY) (h4 Y m' hY hzY) (h5 Y m' hY hzY))
def DAf (n0:Nat) (w0:World) (cs0:List Frame) (pl:Ax.Place) (n:Nat) (z:Int):Prop:=DG n0 w0 cs0 pl n 396 z (Zat.am 8000)/\DG n0 w0 cs0 pl n 396 z (Zak.am 8000)/\DG n0 w0 cs0 pl n 396 z (Zas.am 8000)
theorem Qpn (g:DAf n0 w0 cs0 pl n 1):DG n0 w0 cs0 pl n 16 (n:Int) (Qqc.am 8000):=Qov Z7u<|fc (Qox (I:=396) g.1)<|fc (Qox (I:=396) g.2.2)<|fc (Qox (I:=396) g.2.1)<|fn_
theorem Qpm (g:DAf n0 w0 cs0 pl n 1):DG n0 w0 cs0 pl n 16 (n:Int) (Qqb.am 8000):=Qov Z7t<|fc (Qox (I:=396) g.1)<|fc (Qox (I:=396) g.2.2)<|fc (Qox (I:=396) g.2.1)<|fn_
theorem Qpl (g:DAf n0 w0 cs0 pl n 1):DG n0 w0 cs0 pl n 16 (n:Int) (Qqa.am 8000):=Qov Z7s<|fc (Qox (I:=396) g.1)<|fc (Qox (I:=396) g.2.2)<|fc (Qox (I:=396) g.2.1)<|fn_
theorem Zai (g:DAf n0 w0 cs0 pl n 1):DG n0 w0 cs0 pl n 16 (n:Int) (Z4h.am 8000):=Qov Zib<|fc (Qox (I:=396) g.1)<|fc (Qox (I:=396) g.2.2)<|fc (Qox (I:=396) g.2.1)<|fn_
theorem Zah (g:DAf n0 w0 cs0 pl n 1):DG n0 w0 cs0 pl n 16 (n:Int) (Qwl.am 8000):=Qov Zia<|fc (Qox (I:=396) g.1)<|fc (Qox (I:=396) g.2.2)<|fc (Qox (I:=396) g.2.1)<|fn_
theorem Zag (g:DAf n0 w0 cs0 pl n 1):DG n0 w0 cs0 pl n 16 (n:Int) (Z4g.am 8000):=Qov Zi9<|fc (Qox (I:=396) g.1)<|fc (Qox (I:=396) g.2.2)<|fc (Qox (I:=396) g.2.1)<|fn_
theorem Z5v (g:DAf n0 w0 cs0 pl n 1):DG n0 w0 cs0 pl n 16 (n:Int) Qr8:=Qov Z98<|fc (Qox (I:=396) g.1)<|fc (Qox (I:=396) g.2.2)<|fc (Qox (I:=396) g.2.1)<|fc (Qou (Zai g))<|fc (Qou (Zah g))<|fc (Qou (Zag g))<|fn_
theorem Z61 (g:DAf n0 w0 cs0 pl n 1):DG n0 w0 cs0 pl n 16 (n:Int) Z26:=Qov Z9e<|fc (Qox (I:=396) g.1)<|fc (Qox (I:=396) g.2.2)<|fc (Qox (I:=396) g.2.1)<|fc (Qou (Qpn g))<|fc (Qou (Qpm g))<|fc (Qou (Qpl g))<|fc (Qou (Qpn g))<|fc (Qou (Qpm g))<|fc (Qou (Qpl g))<|fc (Qou (Qpn g))<|fc (Qou (Qpm g))<|fc (Qou (Qpl g))<|fn_
theorem Z60 (g:DAf n0 w0 cs0 pl n 1):DG n0 w0 cs0 pl n 16 (n:Int) Z25:=Qov Z9d<|fc (Qox (I:=396) g.1)<|fc (Qox (I:=396) g.2.2)<|fc (Qox (I:=396) g.2.1)<|fc (Qou (Qpn g))<|fc (Qou (Qpm g))<|fc (Qou (Qpl g))<|fc (Qou (Qpn g))<|fc (Qou (Qpm g))<|fc (Qou (Qpl g))<|fc (Qou (Qpn g))<|fc (Qou (Qpm g))<|fc (Qou (Qpl g))<|fn_
theorem Z5z (g:DAf n0 w0 cs0 pl n 1):DG n0 w0 cs0 pl n 16 (n:Int) Z24:=Qov Z9c<|fc (Qox (I:=396) g.1)<|fc (Qox (I:=396) g.2.2)<|fc (Qox (I:=396) g.2.1)<|fc (Qou (Qpn g))<|fc (Qou (Qpm g))<|fc (Qou (Qpl g))<|fc (Qou (Qpn g))<|fc (Qou (Qpm g))<|fc (Qou (Qpl g))<|fc (Qou (Qpn g))<|fc (Qou (Qpm g))<|fc (Qou (Qpl g))<|fn_
theorem Z5y (g:DAf n0 w0 cs0 pl n 1):DG n0 w0 cs0 pl n 16 (n:Int) Z23:=Qov Z9b<|fc (Qox (I:=396) g.1)<|fc (Qox (I:=396) g.2.2)<|fc (Qox (I:=396) g.2.1)<|fc (Qou (Qpn g))<|fc (Qou (Qpm g))<|fc (Qou (Qpl g))<|fc (Qou (Qpn g))<|fc (Qou (Qpm g))<|fc (Qou (Qpl g))<|fc (Qou (Qpn g))<|fc (Qou (Qpm g))<|fc (Qou (Qpl g))<|fn_
theorem Z5x (g:DAf n0 w0 cs0 pl n 1):DG n0 w0 cs0 pl n 16 (n:Int) Z22:=Qov Z9a<|fc (Qox (I:=396) g.1)<|fc (Qox (I:=396) g.2.2)<|fc (Qox (I:=396) g.2.1)<|fc (Qou (Qpn g))<|fc (Qou (Qpm g))<|fc (Qou (Qpl g))<|fc (Qou (Qpn g))<|fc (Qou (Qpm g))<|fc (Qou (Qpl g))<|fc (Qou (Qpn g))<|fc (Qou (Qpm g))<|fc (Qou (Qpl g))<|fn_
theorem Z5w (g:DAf n0 w0 cs0 pl n 1):DG n0 w0 cs0 pl n 16 (n:Int) Z21:=Qov Z99<|fc (Qox (I:=396) g.1)<|fc (Qox (I:=396) g.2.2)<|fc (Qox (I:=396) g.2.1)<|fc (Qou (Qpn g))<|fc (Qou (Qpm g))<|fc (Qou (Qpl g))<|fc (Qou (Qpn g))<|fc (Qou (Qpm g))<|fc (Qou (Qpl g))<|fc (Qou (Qpn g))<|fc (Qou (Qpm g))<|fc (Qou (Qpl g))<|fn_
theorem Zjd (hI:Qrp n0 w0 pl n) (g:DAf n0 w0 cs0 pl n 1):DG n0 w0 cs0 pl n 16 (n:Int) (Zau.am 8000):=
 Qrx (e:= .lit (.ofNat 0)) (i:=0) hI (by kernel_rfl) rfl rfl (by kernel_rfl) (by kernel_rfl) (by kernel_rfl) (by kernel_rfl) (r:=(Sp.qX frD Zau.next).getD ⟨[],0,[],[]⟩) (by kernel_rfl) (by kernel_rfl) (λ_ _=>rfl) (by kernel_rfl) (by kernel_rfl) (by kernel_rfl) (by kernel_rfl) (by kernel_rfl) (by kernel_rfl) (by kernel_rfl) (λX hX _ hc=>by
  have f1:=(hc.2 _ (List.mem_of_getElem? (show Zau.fs[0]?=some ⟨.gtr, .var 16, .lit (.ofNat 0),true⟩ by kernel_rfl))).1
  simp only [Fact.ok,Yf,E.den,Int.ofNat_eq_natCast] at f1;have f3:=of_decide_eq_true f1;have f2:=hX.l;omega) (Z5v g) (Z61 g) (Z60 g) (Z5z g) (Z5y g) (Z5x g) (Z5w g)
theorem Qpk {z:Nat} (hz:z<30) (g:DAf n0 w0 cs0 pl n ((z+1:Nat):Int)):DG n0 w0 cs0 pl n 396 (z:Int) (Qq9.am 8000):=Qov Z7r<|fc (Qot hz g.1)<|fc (Qot hz g.2.2)<|fc (Qot hz g.2.1)<|fn_
theorem Qpj {z:Nat} (hz:z<30) (g:DAf n0 w0 cs0 pl n ((z+1:Nat):Int)):DG n0 w0 cs0 pl n 396 (z:Int) (Qq8.am 8000):=Qov Z7q<|fc (Qot hz g.1)<|fc (Qot hz g.2.2)<|fc (Qot hz g.2.1)<|fn_
theorem Qpi {z:Nat} (hz:z<30) (g:DAf n0 w0 cs0 pl n ((z+1:Nat):Int)):DG n0 w0 cs0 pl n 396 (z:Int) (Qq7.am 8000):=Qov Z7p<|fc (Qot hz g.1)<|fc (Qot hz g.2.2)<|fc (Qot hz g.2.1)<|fn_
theorem Zaf {z:Nat} (hz:z<30) (g:DAf n0 w0 cs0 pl n ((z+1:Nat):Int)):DG n0 w0 cs0 pl n 396 (z:Int) (Z4f.am 8000):=Qov Zi8<|fc (Qot hz g.1)<|fc (Qot hz g.2.2)<|fc (Qot hz g.2.1)<|fn_
theorem Zae {z:Nat} (hz:z<30) (g:DAf n0 w0 cs0 pl n ((z+1:Nat):Int)):DG n0 w0 cs0 pl n 396 (z:Int) (Qwk.am 8000):=Qov Zi7<|fc (Qot hz g.1)<|fc (Qot hz g.2.2)<|fc (Qot hz g.2.1)<|fn_
theorem Zad {z:Nat} (hz:z<30) (g:DAf n0 w0 cs0 pl n ((z+1:Nat):Int)):DG n0 w0 cs0 pl n 396 (z:Int) (Z4e.am 8000):=Qov Zi6<|fc (Qot hz g.1)<|fc (Qot hz g.2.2)<|fc (Qot hz g.2.1)<|fn_
theorem Z5o {z:Nat} (hz:z<30) (g:DAf n0 w0 cs0 pl n ((z+1:Nat):Int)):DG n0 w0 cs0 pl n 396 (z:Int) Qr7:=Qov Z91<|fc (Qot hz g.1)<|fc (Qot hz g.2.2)<|fc (Qot hz g.2.1)<|fc (Qos (Zaf hz g))<|fc (Qos (Zae hz g))<|fc (Qos (Zad hz g))<|fn_
theorem Z5u {z:Nat} (hz:z<30) (g:DAf n0 w0 cs0 pl n ((z+1:Nat):Int)):DG n0 w0 cs0 pl n 396 (z:Int) Z20:=Qov Z97<|fc (Qot hz g.1)<|fc (Qot hz g.2.2)<|fc (Qot hz g.2.1)<|fc (Qos (Qpk hz g))<|fc (Qos (Qpj hz g))<|fc (Qos (Qpi hz g))<|fc (Qos (Qpk hz g))<|fc (Qos (Qpj hz g))<|fc (Qos (Qpi hz g))<|fc (Qos (Qpk hz g))<|fc (Qos (Qpj hz g))<|fc (Qos (Qpi hz g))<|fn_
theorem Z5t {z:Nat} (hz:z<30) (g:DAf n0 w0 cs0 pl n ((z+1:Nat):Int)):DG n0 w0 cs0 pl n 396 (z:Int) Z1z:=Qov Z96<|fc (Qot hz g.1)<|fc (Qot hz g.2.2)<|fc (Qot hz g.2.1)<|fc (Qos (Qpk hz g))<|fc (Qos (Qpj hz g))<|fc (Qos (Qpi hz g))<|fc (Qos (Qpk hz g))<|fc (Qos (Qpj hz g))<|fc (Qos (Qpi hz g))<|fc (Qos (Qpk hz g))<|fc (Qos (Qpj hz g))<|fc (Qos (Qpi hz g))<|fn_
theorem Z5s {z:Nat} (hz:z<30) (g:DAf n0 w0 cs0 pl n ((z+1:Nat):Int)):DG n0 w0 cs0 pl n 396 (z:Int) Z1y:=Qov Z95<|fc (Qot hz g.1)<|fc (Qot hz g.2.2)<|fc (Qot hz g.2.1)<|fc (Qos (Qpk hz g))<|fc (Qos (Qpj hz g))<|fc (Qos (Qpi hz g))<|fc (Qos (Qpk hz g))<|fc (Qos (Qpj hz g))<|fc (Qos (Qpi hz g))<|fc (Qos (Qpk hz g))<|fc (Qos (Qpj hz g))<|fc (Qos (Qpi hz g))<|fn_
theorem Z5r {z:Nat} (hz:z<30) (g:DAf n0 w0 cs0 pl n ((z+1:Nat):Int)):DG n0 w0 cs0 pl n 396 (z:Int) Z1x:=Qov Z94<|fc (Qot hz g.1)<|fc (Qot hz g.2.2)<|fc (Qot hz g.2.1)<|fc (Qos (Qpk hz g))<|fc (Qos (Qpj hz g))<|fc (Qos (Qpi hz g))<|fc (Qos (Qpk hz g))<|fc (Qos (Qpj hz g))<|fc (Qos (Qpi hz g))<|fc (Qos (Qpk hz g))<|fc (Qos (Qpj hz g))<|fc (Qos (Qpi hz g))<|fn_
theorem Z5q {z:Nat} (hz:z<30) (g:DAf n0 w0 cs0 pl n ((z+1:Nat):Int)):DG n0 w0 cs0 pl n 396 (z:Int) Z1w:=Qov Z93<|fc (Qot hz g.1)<|fc (Qot hz g.2.2)<|fc (Qot hz g.2.1)<|fc (Qos (Qpk hz g))<|fc (Qos (Qpj hz g))<|fc (Qos (Qpi hz g))<|fc (Qos (Qpk hz g))<|fc (Qos (Qpj hz g))<|fc (Qos (Qpi hz g))<|fc (Qos (Qpk hz g))<|fc (Qos (Qpj hz g))<|fc (Qos (Qpi hz g))<|fn_
theorem Z5p {z:Nat} (hz:z<30) (g:DAf n0 w0 cs0 pl n ((z+1:Nat):Int)):DG n0 w0 cs0 pl n 396 (z:Int) Z1v:=Qov Z92<|fc (Qot hz g.1)<|fc (Qot hz g.2.2)<|fc (Qot hz g.2.1)<|fc (Qos (Qpk hz g))<|fc (Qos (Qpj hz g))<|fc (Qos (Qpi hz g))<|fc (Qos (Qpk hz g))<|fc (Qos (Qpj hz g))<|fc (Qos (Qpi hz g))<|fc (Qos (Qpk hz g))<|fc (Qos (Qpj hz g))<|fc (Qos (Qpi hz g))<|fn_
theorem Zjb (hI:Qrp n0 w0 pl n) {z:Nat} (hz:z<30) (g:DAf n0 w0 cs0 pl n ((z+1:Nat):Int)):DG n0 w0 cs0 pl n 396 (z:Int) (Z6v.am 8000):=
 Qrx (e:= .var 396) (i:=z) hI (by kernel_rfl) rfl rfl (by kernel_rfl) (by kernel_rfl) (by kernel_rfl) (by kernel_rfl) (r:=(Sp.qX frD Z6v.next).getD ⟨[],0,[],[]⟩) (by kernel_rfl) (by kernel_rfl) (λ_ h=>h) (by kernel_rfl) (by kernel_rfl) (by kernel_rfl) (by kernel_rfl) (by kernel_rfl) (by kernel_rfl) (by kernel_rfl) (λX hX hx hc=>by
  have f0:=(hc.2 _ (List.mem_of_getElem? (show Z6v.fs[1]?=some ⟨.gtr, .bin .sub .i64 (.var 16) (.var 396), .lit (.ofNat 0),true⟩ by kernel_rfl))).1
  have f1:=(hc.2 _ (List.mem_of_getElem? (show Z6v.fs[5]?=some ⟨.leq, .var 16, .lit (.ofNat 9223372036854775807),true⟩ by kernel_rfl))).1
  simp only [Fact.ok,Yf,E.den,Zp,hX.l,hx,Int.ofNat_eq_natCast,decide_eq_true_eq] at f0 f1;rw [Ax.wrap_within (by simp only [kLo];omega) (by simp only [kHi];omega)] at f0;omega) (Z5o hz g) (Z5u hz g) (Z5t hz g) (Z5s hz g) (Z5r hz g) (Z5q hz g) (Z5p hz g)
theorem Zjc (hI:Qrp n0 w0 pl n) {z:Nat} (g:z<30->DAf n0 w0 cs0 pl n ((z+1:Nat):Int)):DG n0 w0 cs0 pl n 396 (z:Int) (Z6v.am 8000):=λX m hX hx h=>by
 have f0:=(h.ctx.2 _ (List.mem_of_getElem? (show Z6v.fs[0]?=some ⟨.lss, .var 396, .lit (.ofNat 30),true⟩ by kernel_rfl))).1
 simp only [Fact.ok,Yf,E.den,hx,Int.ofNat_eq_natCast,decide_eq_true_eq] at f0;have hz:z<30:=by omega
 exact Zjb hI hz (g hz) X m hX hx h
theorem Z6p (hI:Qrp n0 w0 pl n) {z:Nat} (g:z<30->DAf n0 w0 cs0 pl n ((z+1:Nat):Int)):DG n0 w0 cs0 pl n 396 (z:Int) (Zat.am 8000):=Qov dqBf1<|fc (Qos (Zjc hI g))<|fn_
theorem Qph {z:Nat} (hz:z<30) (g:DAf n0 w0 cs0 pl n ((z+1:Nat):Int)):DG n0 w0 cs0 pl n 396 (z:Int) (Qq6.am 8000):=Qov Z7o<|fc (Qot hz g.2.1)<|fc (Qot hz g.2.1)<|fn_
theorem Qpg {z:Nat} (hz:z<30) (g:DAf n0 w0 cs0 pl n ((z+1:Nat):Int)):DG n0 w0 cs0 pl n 396 (z:Int) (Qq5.am 8000):=Qov Z7n<|fc (Qot hz g.2.1)<|fc (Qot hz g.2.1)<|fn_
theorem Qpf {z:Nat} (hz:z<30) (g:DAf n0 w0 cs0 pl n ((z+1:Nat):Int)):DG n0 w0 cs0 pl n 396 (z:Int) (Qq4.am 8000):=Qov Z7m<|fc (Qot hz g.2.1)<|fc (Qot hz g.2.1)<|fn_
theorem Zac {z:Nat} (hz:z<30) (g:DAf n0 w0 cs0 pl n ((z+1:Nat):Int)):DG n0 w0 cs0 pl n 396 (z:Int) (Z4d.am 8000):=Qov Zi5<|fc (Qot hz g.2.1)<|fc (Qot hz g.2.1)<|fn_
theorem Zab {z:Nat} (hz:z<30) (g:DAf n0 w0 cs0 pl n ((z+1:Nat):Int)):DG n0 w0 cs0 pl n 396 (z:Int) (Qwj.am 8000):=Qov Zi4<|fc (Qot hz g.2.1)<|fc (Qot hz g.2.1)<|fn_
theorem Zaa {z:Nat} (hz:z<30) (g:DAf n0 w0 cs0 pl n ((z+1:Nat):Int)):DG n0 w0 cs0 pl n 396 (z:Int) (Z4c.am 8000):=Qov Zi3<|fc (Qot hz g.2.1)<|fc (Qot hz g.2.1)<|fn_
theorem Z5h {z:Nat} (hz:z<30) (g:DAf n0 w0 cs0 pl n ((z+1:Nat):Int)):DG n0 w0 cs0 pl n 396 (z:Int) Qr0:=Qov Z8u<|fc (Qot hz g.2.1)<|fc (Qot hz g.2.1)<|fc (Qos (Zac hz g))<|fc (Qos (Zab hz g))<|fc (Qos (Zaa hz g))<|fn_
theorem Z5n {z:Nat} (hz:z<30) (g:DAf n0 w0 cs0 pl n ((z+1:Nat):Int)):DG n0 w0 cs0 pl n 396 (z:Int) Z1u:=Qov Z90<|fc (Qot hz g.2.1)<|fc (Qot hz g.2.1)<|fc (Qos (Qph hz g))<|fc (Qos (Qpg hz g))<|fc (Qos (Qpf hz g))<|fc (Qos (Qph hz g))<|fc (Qos (Qpg hz g))<|fc (Qos (Qpf hz g))<|fc (Qos (Qph hz g))<|fc (Qos (Qpg hz g))<|fc (Qos (Qpf hz g))<|fn_
theorem Z5m {z:Nat} (hz:z<30) (g:DAf n0 w0 cs0 pl n ((z+1:Nat):Int)):DG n0 w0 cs0 pl n 396 (z:Int) Z1t:=Qov Z8z<|fc (Qot hz g.2.1)<|fc (Qot hz g.2.1)<|fc (Qos (Qph hz g))<|fc (Qos (Qpg hz g))<|fc (Qos (Qpf hz g))<|fc (Qos (Qph hz g))<|fc (Qos (Qpg hz g))<|fc (Qos (Qpf hz g))<|fc (Qos (Qph hz g))<|fc (Qos (Qpg hz g))<|fc (Qos (Qpf hz g))<|fn_
theorem Z5l {z:Nat} (hz:z<30) (g:DAf n0 w0 cs0 pl n ((z+1:Nat):Int)):DG n0 w0 cs0 pl n 396 (z:Int) Z1s:=Qov Z8y<|fc (Qot hz g.2.1)<|fc (Qot hz g.2.1)<|fc (Qos (Qph hz g))<|fc (Qos (Qpg hz g))<|fc (Qos (Qpf hz g))<|fc (Qos (Qph hz g))<|fc (Qos (Qpg hz g))<|fc (Qos (Qpf hz g))<|fc (Qos (Qph hz g))<|fc (Qos (Qpg hz g))<|fc (Qos (Qpf hz g))<|fn_
theorem Z5k {z:Nat} (hz:z<30) (g:DAf n0 w0 cs0 pl n ((z+1:Nat):Int)):DG n0 w0 cs0 pl n 396 (z:Int) Z1r:=Qov Z8x<|fc (Qot hz g.2.1)<|fc (Qot hz g.2.1)<|fc (Qos (Qph hz g))<|fc (Qos (Qpg hz g))<|fc (Qos (Qpf hz g))<|fc (Qos (Qph hz g))<|fc (Qos (Qpg hz g))<|fc (Qos (Qpf hz g))<|fc (Qos (Qph hz g))<|fc (Qos (Qpg hz g))<|fc (Qos (Qpf hz g))<|fn_
theorem Z5j {z:Nat} (hz:z<30) (g:DAf n0 w0 cs0 pl n ((z+1:Nat):Int)):DG n0 w0 cs0 pl n 396 (z:Int) Z1q:=Qov Z8w<|fc (Qot hz g.2.1)<|fc (Qot hz g.2.1)<|fc (Qos (Qph hz g))<|fc (Qos (Qpg hz g))<|fc (Qos (Qpf hz g))<|fc (Qos (Qph hz g))<|fc (Qos (Qpg hz g))<|fc (Qos (Qpf hz g))<|fc (Qos (Qph hz g))<|fc (Qos (Qpg hz g))<|fc (Qos (Qpf hz g))<|fn_
theorem Z5i {z:Nat} (hz:z<30) (g:DAf n0 w0 cs0 pl n ((z+1:Nat):Int)):DG n0 w0 cs0 pl n 396 (z:Int) Z1p:=Qov Z8v<|fc (Qot hz g.2.1)<|fc (Qot hz g.2.1)<|fc (Qos (Qph hz g))<|fc (Qos (Qpg hz g))<|fc (Qos (Qpf hz g))<|fc (Qos (Qph hz g))<|fc (Qos (Qpg hz g))<|fc (Qos (Qpf hz g))<|fc (Qos (Qph hz g))<|fc (Qos (Qpg hz g))<|fc (Qos (Qpf hz g))<|fn_
theorem Zj9 (hI:Qrp n0 w0 pl n) {z:Nat} (hz:z<30) (g:DAf n0 w0 cs0 pl n ((z+1:Nat):Int)):DG n0 w0 cs0 pl n 396 (z:Int) (Z6u.am 8000):=
 Qrx (e:= .var 396) (i:=z) hI (by kernel_rfl) rfl rfl (by kernel_rfl) (by kernel_rfl) (by kernel_rfl) (by kernel_rfl) (r:=(Sp.qX frD Z6u.next).getD ⟨[],0,[],[]⟩) (by kernel_rfl) (by kernel_rfl) (λ_ h=>h) (by kernel_rfl) (by kernel_rfl) (by kernel_rfl) (by kernel_rfl) (by kernel_rfl) (by kernel_rfl) (by kernel_rfl) (λX hX hx hc=>by
  have f0:=(hc.2 _ (List.mem_of_getElem? (show Z6u.fs[1]?=some ⟨.gtr, .bin .sub .i64 (.var 16) (.var 396), .lit (.ofNat 0),true⟩ by kernel_rfl))).1
  have f1:=(hc.2 _ (List.mem_of_getElem? (show Z6u.fs[7]?=some ⟨.leq, .var 16, .lit (.ofNat 9223372036854775807),true⟩ by kernel_rfl))).1
  simp only [Fact.ok,Yf,E.den,Zp,hX.l,hx,Int.ofNat_eq_natCast,decide_eq_true_eq] at f0 f1;rw [Ax.wrap_within (by simp only [kLo];omega) (by simp only [kHi];omega)] at f0;omega) (Z5h hz g) (Z5n hz g) (Z5m hz g) (Z5l hz g) (Z5k hz g) (Z5j hz g) (Z5i hz g)
theorem Zja (hI:Qrp n0 w0 pl n) {z:Nat} (g:z<30->DAf n0 w0 cs0 pl n ((z+1:Nat):Int)):DG n0 w0 cs0 pl n 396 (z:Int) (Z6u.am 8000):=λX m hX hx h=>by
 have f0:=(h.ctx.2 _ (List.mem_of_getElem? (show Z6u.fs[0]?=some ⟨.lss, .var 396, .lit (.ofNat 30),true⟩ by kernel_rfl))).1
 simp only [Fact.ok,Yf,E.den,hx,Int.ofNat_eq_natCast,decide_eq_true_eq] at f0;have hz:z<30:=by omega
 exact Zj9 hI hz (g hz) X m hX hx h
theorem Z6o (hI:Qrp n0 w0 pl n) {z:Nat} (g:z<30->DAf n0 w0 cs0 pl n ((z+1:Nat):Int)):DG n0 w0 cs0 pl n 396 (z:Int) (Zak.am 8000):=Qov dqBf2<|fc (Qos (Zja hI g))<|fn_
theorem Qpe {z:Nat} (hz:z<30) (g:DAf n0 w0 cs0 pl n ((z+1:Nat):Int)):DG n0 w0 cs0 pl n 396 (z:Int) (Qq3.am 8000):=Qov Z7l<|fc (Qot hz g.2.2)<|fc (Qot hz g.2.1)<|fn_
theorem Qpd {z:Nat} (hz:z<30) (g:DAf n0 w0 cs0 pl n ((z+1:Nat):Int)):DG n0 w0 cs0 pl n 396 (z:Int) (Qq2.am 8000):=Qov Z7k<|fc (Qot hz g.2.2)<|fc (Qot hz g.2.1)<|fn_
theorem Qpc {z:Nat} (hz:z<30) (g:DAf n0 w0 cs0 pl n ((z+1:Nat):Int)):DG n0 w0 cs0 pl n 396 (z:Int) (Qq1.am 8000):=Qov Z7j<|fc (Qot hz g.2.2)<|fc (Qot hz g.2.1)<|fn_
theorem Za9 {z:Nat} (hz:z<30) (g:DAf n0 w0 cs0 pl n ((z+1:Nat):Int)):DG n0 w0 cs0 pl n 396 (z:Int) (Z4b.am 8000):=Qov Zi2<|fc (Qot hz g.2.2)<|fc (Qot hz g.2.1)<|fn_
theorem Za8 {z:Nat} (hz:z<30) (g:DAf n0 w0 cs0 pl n ((z+1:Nat):Int)):DG n0 w0 cs0 pl n 396 (z:Int) (Qwi.am 8000):=Qov Zi1<|fc (Qot hz g.2.2)<|fc (Qot hz g.2.1)<|fn_
theorem Za7 {z:Nat} (hz:z<30) (g:DAf n0 w0 cs0 pl n ((z+1:Nat):Int)):DG n0 w0 cs0 pl n 396 (z:Int) (Z4a.am 8000):=Qov Zi0<|fc (Qot hz g.2.2)<|fc (Qot hz g.2.1)<|fn_
theorem Z5a {z:Nat} (hz:z<30) (g:DAf n0 w0 cs0 pl n ((z+1:Nat):Int)):DG n0 w0 cs0 pl n 396 (z:Int) Qr6:=Qov Z8n<|fc (Qot hz g.2.2)<|fc (Qot hz g.2.1)<|fc (Qos (Za9 hz g))<|fc (Qos (Za8 hz g))<|fc (Qos (Za7 hz g))<|fn_
theorem Z5g {z:Nat} (hz:z<30) (g:DAf n0 w0 cs0 pl n ((z+1:Nat):Int)):DG n0 w0 cs0 pl n 396 (z:Int) Z1o:=Qov Z8t<|fc (Qot hz g.2.2)<|fc (Qot hz g.2.1)<|fc (Qos (Qpe hz g))<|fc (Qos (Qpd hz g))<|fc (Qos (Qpc hz g))<|fc (Qos (Qpe hz g))<|fc (Qos (Qpd hz g))<|fc (Qos (Qpc hz g))<|fc (Qos (Qpe hz g))<|fc (Qos (Qpd hz g))<|fc (Qos (Qpc hz g))<|fn_
theorem Z5f {z:Nat} (hz:z<30) (g:DAf n0 w0 cs0 pl n ((z+1:Nat):Int)):DG n0 w0 cs0 pl n 396 (z:Int) Z1n:=Qov Z8s<|fc (Qot hz g.2.2)<|fc (Qot hz g.2.1)<|fc (Qos (Qpe hz g))<|fc (Qos (Qpd hz g))<|fc (Qos (Qpc hz g))<|fc (Qos (Qpe hz g))<|fc (Qos (Qpd hz g))<|fc (Qos (Qpc hz g))<|fc (Qos (Qpe hz g))<|fc (Qos (Qpd hz g))<|fc (Qos (Qpc hz g))<|fn_
theorem Z5e {z:Nat} (hz:z<30) (g:DAf n0 w0 cs0 pl n ((z+1:Nat):Int)):DG n0 w0 cs0 pl n 396 (z:Int) Z1m:=Qov Z8r<|fc (Qot hz g.2.2)<|fc (Qot hz g.2.1)<|fc (Qos (Qpe hz g))<|fc (Qos (Qpd hz g))<|fc (Qos (Qpc hz g))<|fc (Qos (Qpe hz g))<|fc (Qos (Qpd hz g))<|fc (Qos (Qpc hz g))<|fc (Qos (Qpe hz g))<|fc (Qos (Qpd hz g))<|fc (Qos (Qpc hz g))<|fn_
theorem Z5d {z:Nat} (hz:z<30) (g:DAf n0 w0 cs0 pl n ((z+1:Nat):Int)):DG n0 w0 cs0 pl n 396 (z:Int) Z1l:=Qov Z8q<|fc (Qot hz g.2.2)<|fc (Qot hz g.2.1)<|fc (Qos (Qpe hz g))<|fc (Qos (Qpd hz g))<|fc (Qos (Qpc hz g))<|fc (Qos (Qpe hz g))<|fc (Qos (Qpd hz g))<|fc (Qos (Qpc hz g))<|fc (Qos (Qpe hz g))<|fc (Qos (Qpd hz g))<|fc (Qos (Qpc hz g))<|fn_
theorem Z5c {z:Nat} (hz:z<30) (g:DAf n0 w0 cs0 pl n ((z+1:Nat):Int)):DG n0 w0 cs0 pl n 396 (z:Int) Z1k:=Qov Z8p<|fc (Qot hz g.2.2)<|fc (Qot hz g.2.1)<|fc (Qos (Qpe hz g))<|fc (Qos (Qpd hz g))<|fc (Qos (Qpc hz g))<|fc (Qos (Qpe hz g))<|fc (Qos (Qpd hz g))<|fc (Qos (Qpc hz g))<|fc (Qos (Qpe hz g))<|fc (Qos (Qpd hz g))<|fc (Qos (Qpc hz g))<|fn_
theorem Z5b {z:Nat} (hz:z<30) (g:DAf n0 w0 cs0 pl n ((z+1:Nat):Int)):DG n0 w0 cs0 pl n 396 (z:Int) Z1j:=Qov Z8o<|fc (Qot hz g.2.2)<|fc (Qot hz g.2.1)<|fc (Qos (Qpe hz g))<|fc (Qos (Qpd hz g))<|fc (Qos (Qpc hz g))<|fc (Qos (Qpe hz g))<|fc (Qos (Qpd hz g))<|fc (Qos (Qpc hz g))<|fc (Qos (Qpe hz g))<|fc (Qos (Qpd hz g))<|fc (Qos (Qpc hz g))<|fn_
theorem Zj7 (hI:Qrp n0 w0 pl n) {z:Nat} (hz:z<30) (g:DAf n0 w0 cs0 pl n ((z+1:Nat):Int)):DG n0 w0 cs0 pl n 396 (z:Int) (Z6t.am 8000):=
 Qrx (e:= .var 396) (i:=z) hI (by kernel_rfl) rfl rfl (by kernel_rfl) (by kernel_rfl) (by kernel_rfl) (by kernel_rfl) (r:=(Sp.qX frD Z6t.next).getD ⟨[],0,[],[]⟩) (by kernel_rfl) (by kernel_rfl) (λ_ h=>h) (by kernel_rfl) (by kernel_rfl) (by kernel_rfl) (by kernel_rfl) (by kernel_rfl) (by kernel_rfl) (by kernel_rfl) (λX hX hx hc=>by
  have f0:=(hc.2 _ (List.mem_of_getElem? (show Z6t.fs[1]?=some ⟨.gtr, .bin .sub .i64 (.var 16) (.var 396), .lit (.ofNat 0),true⟩ by kernel_rfl))).1
  have f1:=(hc.2 _ (List.mem_of_getElem? (show Z6t.fs[5]?=some ⟨.leq, .var 16, .lit (.ofNat 9223372036854775807),true⟩ by kernel_rfl))).1
  simp only [Fact.ok,Yf,E.den,Zp,hX.l,hx,Int.ofNat_eq_natCast,decide_eq_true_eq] at f0 f1;rw [Ax.wrap_within (by simp only [kLo];omega) (by simp only [kHi];omega)] at f0;omega) (Z5a hz g) (Z5g hz g) (Z5f hz g) (Z5e hz g) (Z5d hz g) (Z5c hz g) (Z5b hz g)
theorem Zj8 (hI:Qrp n0 w0 pl n) {z:Nat} (g:z<30->DAf n0 w0 cs0 pl n ((z+1:Nat):Int)):DG n0 w0 cs0 pl n 396 (z:Int) (Z6t.am 8000):=λX m hX hx h=>by
 have f0:=(h.ctx.2 _ (List.mem_of_getElem? (show Z6t.fs[0]?=some ⟨.lss, .var 396, .lit (.ofNat 30),true⟩ by kernel_rfl))).1
 simp only [Fact.ok,Yf,E.den,hx,Int.ofNat_eq_natCast,decide_eq_true_eq] at f0;have hz:z<30:=by omega
 exact Zj7 hI hz (g hz) X m hX hx h
theorem Z6n (hI:Qrp n0 w0 pl n) {z:Nat} (g:z<30->DAf n0 w0 cs0 pl n ((z+1:Nat):Int)):DG n0 w0 cs0 pl n 396 (z:Int) (Zas.am 8000):=Qov dqBf3<|fc (Qos (Zj8 hI g))<|fn_
theorem Qtz (hI:Qrp n0 w0 pl n):∀(k z:Nat),30<=z+k->DAf n0 w0 cs0 pl n (z:Int)
 |0,z,h=>⟨Z6p hI λhz=>absurd hz (by omega),Z6o hI λhz=>absurd hz (by omega),Z6n hI λhz=>absurd hz (by omega)⟩
 |k+1,z,h=>⟨Z6p hI λ_=>Qtz hI k (z+1) (by omega),Z6o hI λ_=>Qtz hI k (z+1) (by omega),Z6n hI λ_=>Qtz hI k (z+1) (by omega)⟩
theorem Ziy (hI:Qrp n0 w0 pl n):DG n0 w0 cs0 pl n 16 (n:Int) (dBf0.am 8000):=Qov dqBf0<|fc (Qou (Zjd hI (Qtz hI 29 1 (by omega))))<|fn_
theorem dSf_g (hI:Qrp n0 w0 pl n):DG n0 w0 cs0 pl n 16 (n:Int) (dS false):=Qov dqSf<|fc (Qou (Ziy hI))<|fn_
def DAt (n0:Nat) (w0:World) (cs0:List Frame) (pl:Ax.Place) (n:Nat) (z:Int):Prop:=DG n0 w0 cs0 pl n 396 z (Zar.am 8000)/\DG n0 w0 cs0 pl n 396 z (Zaj.am 8000)/\DG n0 w0 cs0 pl n 396 z (Zaq.am 8000)
theorem Qpb (g:DAt n0 w0 cs0 pl n 1):DG n0 w0 cs0 pl n 16 (n:Int) (Qq0.am 8000):=Qov Z7i<|fc (Qox (I:=396) g.1)<|fc (Qox (I:=396) g.2.2)<|fc (Qox (I:=396) g.2.1)<|fn_
theorem Qpa (g:DAt n0 w0 cs0 pl n 1):DG n0 w0 cs0 pl n 16 (n:Int) (Qpz.am 8000):=Qov Z7h<|fc (Qox (I:=396) g.1)<|fc (Qox (I:=396) g.2.2)<|fc (Qox (I:=396) g.2.1)<|fn_
theorem Qp9 (g:DAt n0 w0 cs0 pl n 1):DG n0 w0 cs0 pl n 16 (n:Int) (Qpy.am 8000):=Qov Z7g<|fc (Qox (I:=396) g.1)<|fc (Qox (I:=396) g.2.2)<|fc (Qox (I:=396) g.2.1)<|fn_
theorem Za6 (g:DAt n0 w0 cs0 pl n 1):DG n0 w0 cs0 pl n 16 (n:Int) (Z49.am 8000):=Qov Zhz<|fc (Qox (I:=396) g.1)<|fc (Qox (I:=396) g.2.2)<|fc (Qox (I:=396) g.2.1)<|fn_
theorem Za5 (g:DAt n0 w0 cs0 pl n 1):DG n0 w0 cs0 pl n 16 (n:Int) (Qwh.am 8000):=Qov Zhy<|fc (Qox (I:=396) g.1)<|fc (Qox (I:=396) g.2.2)<|fc (Qox (I:=396) g.2.1)<|fn_
theorem Za4 (g:DAt n0 w0 cs0 pl n 1):DG n0 w0 cs0 pl n 16 (n:Int) (Z48.am 8000):=Qov Zhx<|fc (Qox (I:=396) g.1)<|fc (Qox (I:=396) g.2.2)<|fc (Qox (I:=396) g.2.1)<|fn_
theorem Z53 (g:DAt n0 w0 cs0 pl n 1):DG n0 w0 cs0 pl n 16 (n:Int) Qr5:=Qov Z8g<|fc (Qox (I:=396) g.1)<|fc (Qox (I:=396) g.2.2)<|fc (Qox (I:=396) g.2.1)<|fc (Qou (Za6 g))<|fc (Qou (Za5 g))<|fc (Qou (Za4 g))<|fn_
theorem Z59 (g:DAt n0 w0 cs0 pl n 1):DG n0 w0 cs0 pl n 16 (n:Int) Z1i:=Qov Z8m<|fc (Qox (I:=396) g.1)<|fc (Qox (I:=396) g.2.2)<|fc (Qox (I:=396) g.2.1)<|fc (Qou (Qpb g))<|fc (Qou (Qpa g))<|fc (Qou (Qp9 g))<|fc (Qou (Qpb g))<|fc (Qou (Qpa g))<|fc (Qou (Qp9 g))<|fc (Qou (Qpb g))<|fc (Qou (Qpa g))<|fc (Qou (Qp9 g))<|fn_
theorem Z58 (g:DAt n0 w0 cs0 pl n 1):DG n0 w0 cs0 pl n 16 (n:Int) Z1h:=Qov Z8l<|fc (Qox (I:=396) g.1)<|fc (Qox (I:=396) g.2.2)<|fc (Qox (I:=396) g.2.1)<|fc (Qou (Qpb g))<|fc (Qou (Qpa g))<|fc (Qou (Qp9 g))<|fc (Qou (Qpb g))<|fc (Qou (Qpa g))<|fc (Qou (Qp9 g))<|fc (Qou (Qpb g))<|fc (Qou (Qpa g))<|fc (Qou (Qp9 g))<|fn_
theorem Z57 (g:DAt n0 w0 cs0 pl n 1):DG n0 w0 cs0 pl n 16 (n:Int) Z1g:=Qov Z8k<|fc (Qox (I:=396) g.1)<|fc (Qox (I:=396) g.2.2)<|fc (Qox (I:=396) g.2.1)<|fc (Qou (Qpb g))<|fc (Qou (Qpa g))<|fc (Qou (Qp9 g))<|fc (Qou (Qpb g))<|fc (Qou (Qpa g))<|fc (Qou (Qp9 g))<|fc (Qou (Qpb g))<|fc (Qou (Qpa g))<|fc (Qou (Qp9 g))<|fn_
theorem Z56 (g:DAt n0 w0 cs0 pl n 1):DG n0 w0 cs0 pl n 16 (n:Int) Z1f:=Qov Z8j<|fc (Qox (I:=396) g.1)<|fc (Qox (I:=396) g.2.2)<|fc (Qox (I:=396) g.2.1)<|fc (Qou (Qpb g))<|fc (Qou (Qpa g))<|fc (Qou (Qp9 g))<|fc (Qou (Qpb g))<|fc (Qou (Qpa g))<|fc (Qou (Qp9 g))<|fc (Qou (Qpb g))<|fc (Qou (Qpa g))<|fc (Qou (Qp9 g))<|fn_
theorem Z55 (g:DAt n0 w0 cs0 pl n 1):DG n0 w0 cs0 pl n 16 (n:Int) Z1e:=Qov Z8i<|fc (Qox (I:=396) g.1)<|fc (Qox (I:=396) g.2.2)<|fc (Qox (I:=396) g.2.1)<|fc (Qou (Qpb g))<|fc (Qou (Qpa g))<|fc (Qou (Qp9 g))<|fc (Qou (Qpb g))<|fc (Qou (Qpa g))<|fc (Qou (Qp9 g))<|fc (Qou (Qpb g))<|fc (Qou (Qpa g))<|fc (Qou (Qp9 g))<|fn_
theorem Z54 (g:DAt n0 w0 cs0 pl n 1):DG n0 w0 cs0 pl n 16 (n:Int) Z1d:=Qov Z8h<|fc (Qox (I:=396) g.1)<|fc (Qox (I:=396) g.2.2)<|fc (Qox (I:=396) g.2.1)<|fc (Qou (Qpb g))<|fc (Qou (Qpa g))<|fc (Qou (Qp9 g))<|fc (Qou (Qpb g))<|fc (Qou (Qpa g))<|fc (Qou (Qp9 g))<|fc (Qou (Qpb g))<|fc (Qou (Qpa g))<|fc (Qou (Qp9 g))<|fn_
theorem Zj5 (hI:Qrp n0 w0 pl n) (g:DAt n0 w0 cs0 pl n 1):DG n0 w0 cs0 pl n 16 (n:Int) (Zj6.am 8000):=
 Qrx (e:= .lit (.ofNat 0)) (i:=0) hI (by kernel_rfl) rfl rfl (by kernel_rfl) (by kernel_rfl) (by kernel_rfl) (by kernel_rfl) (r:=(Sp.qX frD Zj6.next).getD ⟨[],0,[],[]⟩) (by kernel_rfl) (by kernel_rfl) (λ_ _=>rfl) (by kernel_rfl) (by kernel_rfl) (by kernel_rfl) (by kernel_rfl) (by kernel_rfl) (by kernel_rfl) (by kernel_rfl) (λX hX _ hc=>by
  have f1:=(hc.2 _ (List.mem_of_getElem? (show Zj6.fs[0]?=some ⟨.gtr, .var 16, .lit (.ofNat 0),true⟩ by kernel_rfl))).1
  simp only [Fact.ok,Yf,E.den,Int.ofNat_eq_natCast] at f1;have f3:=of_decide_eq_true f1;have f2:=hX.l;omega) (Z53 g) (Z59 g) (Z58 g) (Z57 g) (Z56 g) (Z55 g) (Z54 g)
theorem Qp8 {z:Nat} (hz:z<30) (g:DAt n0 w0 cs0 pl n ((z+1:Nat):Int)):DG n0 w0 cs0 pl n 396 (z:Int) (Qpx.am 8000):=Qov Z7f<|fc (Qot hz g.1)<|fc (Qot hz g.2.2)<|fc (Qot hz g.2.1)<|fn_
theorem Qp7 {z:Nat} (hz:z<30) (g:DAt n0 w0 cs0 pl n ((z+1:Nat):Int)):DG n0 w0 cs0 pl n 396 (z:Int) (Qpw.am 8000):=Qov Z7e<|fc (Qot hz g.1)<|fc (Qot hz g.2.2)<|fc (Qot hz g.2.1)<|fn_
theorem Qp6 {z:Nat} (hz:z<30) (g:DAt n0 w0 cs0 pl n ((z+1:Nat):Int)):DG n0 w0 cs0 pl n 396 (z:Int) (Qpv.am 8000):=Qov Z7d<|fc (Qot hz g.1)<|fc (Qot hz g.2.2)<|fc (Qot hz g.2.1)<|fn_
theorem Za3 {z:Nat} (hz:z<30) (g:DAt n0 w0 cs0 pl n ((z+1:Nat):Int)):DG n0 w0 cs0 pl n 396 (z:Int) (Z47.am 8000):=Qov Zhw<|fc (Qot hz g.1)<|fc (Qot hz g.2.2)<|fc (Qot hz g.2.1)<|fn_
theorem Za2 {z:Nat} (hz:z<30) (g:DAt n0 w0 cs0 pl n ((z+1:Nat):Int)):DG n0 w0 cs0 pl n 396 (z:Int) (Qwg.am 8000):=Qov Zhv<|fc (Qot hz g.1)<|fc (Qot hz g.2.2)<|fc (Qot hz g.2.1)<|fn_
theorem Za1 {z:Nat} (hz:z<30) (g:DAt n0 w0 cs0 pl n ((z+1:Nat):Int)):DG n0 w0 cs0 pl n 396 (z:Int) (Z46.am 8000):=Qov Zhu<|fc (Qot hz g.1)<|fc (Qot hz g.2.2)<|fc (Qot hz g.2.1)<|fn_
theorem Z4w {z:Nat} (hz:z<30) (g:DAt n0 w0 cs0 pl n ((z+1:Nat):Int)):DG n0 w0 cs0 pl n 396 (z:Int) Qr4:=Qov Z89<|fc (Qot hz g.1)<|fc (Qot hz g.2.2)<|fc (Qot hz g.2.1)<|fc (Qos (Za3 hz g))<|fc (Qos (Za2 hz g))<|fc (Qos (Za1 hz g))<|fn_
theorem Z52 {z:Nat} (hz:z<30) (g:DAt n0 w0 cs0 pl n ((z+1:Nat):Int)):DG n0 w0 cs0 pl n 396 (z:Int) Z1c:=Qov Z8f<|fc (Qot hz g.1)<|fc (Qot hz g.2.2)<|fc (Qot hz g.2.1)<|fc (Qos (Qp8 hz g))<|fc (Qos (Qp7 hz g))<|fc (Qos (Qp6 hz g))<|fc (Qos (Qp8 hz g))<|fc (Qos (Qp7 hz g))<|fc (Qos (Qp6 hz g))<|fc (Qos (Qp8 hz g))<|fc (Qos (Qp7 hz g))<|fc (Qos (Qp6 hz g))<|fn_
theorem Z51 {z:Nat} (hz:z<30) (g:DAt n0 w0 cs0 pl n ((z+1:Nat):Int)):DG n0 w0 cs0 pl n 396 (z:Int) Z1b:=Qov Z8e<|fc (Qot hz g.1)<|fc (Qot hz g.2.2)<|fc (Qot hz g.2.1)<|fc (Qos (Qp8 hz g))<|fc (Qos (Qp7 hz g))<|fc (Qos (Qp6 hz g))<|fc (Qos (Qp8 hz g))<|fc (Qos (Qp7 hz g))<|fc (Qos (Qp6 hz g))<|fc (Qos (Qp8 hz g))<|fc (Qos (Qp7 hz g))<|fc (Qos (Qp6 hz g))<|fn_
theorem Z50 {z:Nat} (hz:z<30) (g:DAt n0 w0 cs0 pl n ((z+1:Nat):Int)):DG n0 w0 cs0 pl n 396 (z:Int) Z1a:=Qov Z8d<|fc (Qot hz g.1)<|fc (Qot hz g.2.2)<|fc (Qot hz g.2.1)<|fc (Qos (Qp8 hz g))<|fc (Qos (Qp7 hz g))<|fc (Qos (Qp6 hz g))<|fc (Qos (Qp8 hz g))<|fc (Qos (Qp7 hz g))<|fc (Qos (Qp6 hz g))<|fc (Qos (Qp8 hz g))<|fc (Qos (Qp7 hz g))<|fc (Qos (Qp6 hz g))<|fn_
theorem Z4z {z:Nat} (hz:z<30) (g:DAt n0 w0 cs0 pl n ((z+1:Nat):Int)):DG n0 w0 cs0 pl n 396 (z:Int) Z19:=Qov Z8c<|fc (Qot hz g.1)<|fc (Qot hz g.2.2)<|fc (Qot hz g.2.1)<|fc (Qos (Qp8 hz g))<|fc (Qos (Qp7 hz g))<|fc (Qos (Qp6 hz g))<|fc (Qos (Qp8 hz g))<|fc (Qos (Qp7 hz g))<|fc (Qos (Qp6 hz g))<|fc (Qos (Qp8 hz g))<|fc (Qos (Qp7 hz g))<|fc (Qos (Qp6 hz g))<|fn_
theorem Z4y {z:Nat} (hz:z<30) (g:DAt n0 w0 cs0 pl n ((z+1:Nat):Int)):DG n0 w0 cs0 pl n 396 (z:Int) Z18:=Qov Z8b<|fc (Qot hz g.1)<|fc (Qot hz g.2.2)<|fc (Qot hz g.2.1)<|fc (Qos (Qp8 hz g))<|fc (Qos (Qp7 hz g))<|fc (Qos (Qp6 hz g))<|fc (Qos (Qp8 hz g))<|fc (Qos (Qp7 hz g))<|fc (Qos (Qp6 hz g))<|fc (Qos (Qp8 hz g))<|fc (Qos (Qp7 hz g))<|fc (Qos (Qp6 hz g))<|fn_
theorem Z4x {z:Nat} (hz:z<30) (g:DAt n0 w0 cs0 pl n ((z+1:Nat):Int)):DG n0 w0 cs0 pl n 396 (z:Int) Z17:=Qov Z8a<|fc (Qot hz g.1)<|fc (Qot hz g.2.2)<|fc (Qot hz g.2.1)<|fc (Qos (Qp8 hz g))<|fc (Qos (Qp7 hz g))<|fc (Qos (Qp6 hz g))<|fc (Qos (Qp8 hz g))<|fc (Qos (Qp7 hz g))<|fc (Qos (Qp6 hz g))<|fc (Qos (Qp8 hz g))<|fc (Qos (Qp7 hz g))<|fc (Qos (Qp6 hz g))<|fn_
theorem Zj3 (hI:Qrp n0 w0 pl n) {z:Nat} (hz:z<30) (g:DAt n0 w0 cs0 pl n ((z+1:Nat):Int)):DG n0 w0 cs0 pl n 396 (z:Int) (Z6s.am 8000):=
 Qrx (e:= .var 396) (i:=z) hI (by kernel_rfl) rfl rfl (by kernel_rfl) (by kernel_rfl) (by kernel_rfl) (by kernel_rfl) (r:=(Sp.qX frD Z6s.next).getD ⟨[],0,[],[]⟩) (by kernel_rfl) (by kernel_rfl) (λ_ h=>h) (by kernel_rfl) (by kernel_rfl) (by kernel_rfl) (by kernel_rfl) (by kernel_rfl) (by kernel_rfl) (by kernel_rfl) (λX hX hx hc=>by
  have f0:=(hc.2 _ (List.mem_of_getElem? (show Z6s.fs[1]?=some ⟨.gtr, .bin .sub .i64 (.var 16) (.var 396), .lit (.ofNat 0),true⟩ by kernel_rfl))).1
  have f1:=(hc.2 _ (List.mem_of_getElem? (show Z6s.fs[5]?=some ⟨.leq, .var 16, .lit (.ofNat 9223372036854775807),true⟩ by kernel_rfl))).1
  simp only [Fact.ok,Yf,E.den,Zp,hX.l,hx,Int.ofNat_eq_natCast,decide_eq_true_eq] at f0 f1;rw [Ax.wrap_within (by simp only [kLo];omega) (by simp only [kHi];omega)] at f0;omega) (Z4w hz g) (Z52 hz g) (Z51 hz g) (Z50 hz g) (Z4z hz g) (Z4y hz g) (Z4x hz g)
theorem Zj4 (hI:Qrp n0 w0 pl n) {z:Nat} (g:z<30->DAt n0 w0 cs0 pl n ((z+1:Nat):Int)):DG n0 w0 cs0 pl n 396 (z:Int) (Z6s.am 8000):=λX m hX hx h=>by
 have f0:=(h.ctx.2 _ (List.mem_of_getElem? (show Z6s.fs[0]?=some ⟨.lss, .var 396, .lit (.ofNat 30),true⟩ by kernel_rfl))).1
 simp only [Fact.ok,Yf,E.den,hx,Int.ofNat_eq_natCast,decide_eq_true_eq] at f0;have hz:z<30:=by omega
 exact Zj3 hI hz (g hz) X m hX hx h
theorem Z6m (hI:Qrp n0 w0 pl n) {z:Nat} (g:z<30->DAt n0 w0 cs0 pl n ((z+1:Nat):Int)):DG n0 w0 cs0 pl n 396 (z:Int) (Zar.am 8000):=Qov dqBt1<|fc (Qos (Zj4 hI g))<|fn_
theorem Qp5 {z:Nat} (hz:z<30) (g:DAt n0 w0 cs0 pl n ((z+1:Nat):Int)):DG n0 w0 cs0 pl n 396 (z:Int) (Qpu.am 8000):=Qov Z7c<|fc (Qot hz g.2.1)<|fc (Qot hz g.2.1)<|fn_
theorem Qp4 {z:Nat} (hz:z<30) (g:DAt n0 w0 cs0 pl n ((z+1:Nat):Int)):DG n0 w0 cs0 pl n 396 (z:Int) (Qpt.am 8000):=Qov Z7b<|fc (Qot hz g.2.1)<|fc (Qot hz g.2.1)<|fn_
theorem Qp3 {z:Nat} (hz:z<30) (g:DAt n0 w0 cs0 pl n ((z+1:Nat):Int)):DG n0 w0 cs0 pl n 396 (z:Int) (Qps.am 8000):=Qov Z7a<|fc (Qot hz g.2.1)<|fc (Qot hz g.2.1)<|fn_
theorem Za0 {z:Nat} (hz:z<30) (g:DAt n0 w0 cs0 pl n ((z+1:Nat):Int)):DG n0 w0 cs0 pl n 396 (z:Int) (Z45.am 8000):=Qov Zht<|fc (Qot hz g.2.1)<|fc (Qot hz g.2.1)<|fn_
theorem Z9z {z:Nat} (hz:z<30) (g:DAt n0 w0 cs0 pl n ((z+1:Nat):Int)):DG n0 w0 cs0 pl n 396 (z:Int) (Qwf.am 8000):=Qov Zhs<|fc (Qot hz g.2.1)<|fc (Qot hz g.2.1)<|fn_
theorem Z9y {z:Nat} (hz:z<30) (g:DAt n0 w0 cs0 pl n ((z+1:Nat):Int)):DG n0 w0 cs0 pl n 396 (z:Int) (Z44.am 8000):=Qov Zhr<|fc (Qot hz g.2.1)<|fc (Qot hz g.2.1)<|fn_
theorem Z4p {z:Nat} (hz:z<30) (g:DAt n0 w0 cs0 pl n ((z+1:Nat):Int)):DG n0 w0 cs0 pl n 396 (z:Int) Qqz:=Qov Z82<|fc (Qot hz g.2.1)<|fc (Qot hz g.2.1)<|fc (Qos (Za0 hz g))<|fc (Qos (Z9z hz g))<|fc (Qos (Z9y hz g))<|fn_
theorem Z4v {z:Nat} (hz:z<30) (g:DAt n0 w0 cs0 pl n ((z+1:Nat):Int)):DG n0 w0 cs0 pl n 396 (z:Int) Z16:=Qov Z88<|fc (Qot hz g.2.1)<|fc (Qot hz g.2.1)<|fc (Qos (Qp5 hz g))<|fc (Qos (Qp4 hz g))<|fc (Qos (Qp3 hz g))<|fc (Qos (Qp5 hz g))<|fc (Qos (Qp4 hz g))<|fc (Qos (Qp3 hz g))<|fc (Qos (Qp5 hz g))<|fc (Qos (Qp4 hz g))<|fc (Qos (Qp3 hz g))<|fn_
theorem Z4u {z:Nat} (hz:z<30) (g:DAt n0 w0 cs0 pl n ((z+1:Nat):Int)):DG n0 w0 cs0 pl n 396 (z:Int) Z15:=Qov Z87<|fc (Qot hz g.2.1)<|fc (Qot hz g.2.1)<|fc (Qos (Qp5 hz g))<|fc (Qos (Qp4 hz g))<|fc (Qos (Qp3 hz g))<|fc (Qos (Qp5 hz g))<|fc (Qos (Qp4 hz g))<|fc (Qos (Qp3 hz g))<|fc (Qos (Qp5 hz g))<|fc (Qos (Qp4 hz g))<|fc (Qos (Qp3 hz g))<|fn_
theorem Z4t {z:Nat} (hz:z<30) (g:DAt n0 w0 cs0 pl n ((z+1:Nat):Int)):DG n0 w0 cs0 pl n 396 (z:Int) Z14:=Qov Z86<|fc (Qot hz g.2.1)<|fc (Qot hz g.2.1)<|fc (Qos (Qp5 hz g))<|fc (Qos (Qp4 hz g))<|fc (Qos (Qp3 hz g))<|fc (Qos (Qp5 hz g))<|fc (Qos (Qp4 hz g))<|fc (Qos (Qp3 hz g))<|fc (Qos (Qp5 hz g))<|fc (Qos (Qp4 hz g))<|fc (Qos (Qp3 hz g))<|fn_
theorem Z4s {z:Nat} (hz:z<30) (g:DAt n0 w0 cs0 pl n ((z+1:Nat):Int)):DG n0 w0 cs0 pl n 396 (z:Int) Z13:=Qov Z85<|fc (Qot hz g.2.1)<|fc (Qot hz g.2.1)<|fc (Qos (Qp5 hz g))<|fc (Qos (Qp4 hz g))<|fc (Qos (Qp3 hz g))<|fc (Qos (Qp5 hz g))<|fc (Qos (Qp4 hz g))<|fc (Qos (Qp3 hz g))<|fc (Qos (Qp5 hz g))<|fc (Qos (Qp4 hz g))<|fc (Qos (Qp3 hz g))<|fn_
theorem Z4r {z:Nat} (hz:z<30) (g:DAt n0 w0 cs0 pl n ((z+1:Nat):Int)):DG n0 w0 cs0 pl n 396 (z:Int) Z12:=Qov Z84<|fc (Qot hz g.2.1)<|fc (Qot hz g.2.1)<|fc (Qos (Qp5 hz g))<|fc (Qos (Qp4 hz g))<|fc (Qos (Qp3 hz g))<|fc (Qos (Qp5 hz g))<|fc (Qos (Qp4 hz g))<|fc (Qos (Qp3 hz g))<|fc (Qos (Qp5 hz g))<|fc (Qos (Qp4 hz g))<|fc (Qos (Qp3 hz g))<|fn_
theorem Z4q {z:Nat} (hz:z<30) (g:DAt n0 w0 cs0 pl n ((z+1:Nat):Int)):DG n0 w0 cs0 pl n 396 (z:Int) Z11:=Qov Z83<|fc (Qot hz g.2.1)<|fc (Qot hz g.2.1)<|fc (Qos (Qp5 hz g))<|fc (Qos (Qp4 hz g))<|fc (Qos (Qp3 hz g))<|fc (Qos (Qp5 hz g))<|fc (Qos (Qp4 hz g))<|fc (Qos (Qp3 hz g))<|fc (Qos (Qp5 hz g))<|fc (Qos (Qp4 hz g))<|fc (Qos (Qp3 hz g))<|fn_
theorem Zj1 (hI:Qrp n0 w0 pl n) {z:Nat} (hz:z<30) (g:DAt n0 w0 cs0 pl n ((z+1:Nat):Int)):DG n0 w0 cs0 pl n 396 (z:Int) (Z6r.am 8000):=
 Qrx (e:= .var 396) (i:=z) hI (by kernel_rfl) rfl rfl (by kernel_rfl) (by kernel_rfl) (by kernel_rfl) (by kernel_rfl) (r:=(Sp.qX frD Z6r.next).getD ⟨[],0,[],[]⟩) (by kernel_rfl) (by kernel_rfl) (λ_ h=>h) (by kernel_rfl) (by kernel_rfl) (by kernel_rfl) (by kernel_rfl) (by kernel_rfl) (by kernel_rfl) (by kernel_rfl) (λX hX hx hc=>by
  have f0:=(hc.2 _ (List.mem_of_getElem? (show Z6r.fs[1]?=some ⟨.gtr, .bin .sub .i64 (.var 16) (.var 396), .lit (.ofNat 0),true⟩ by kernel_rfl))).1
  have f1:=(hc.2 _ (List.mem_of_getElem? (show Z6r.fs[7]?=some ⟨.leq, .var 16, .lit (.ofNat 9223372036854775807),true⟩ by kernel_rfl))).1
  simp only [Fact.ok,Yf,E.den,Zp,hX.l,hx,Int.ofNat_eq_natCast,decide_eq_true_eq] at f0 f1;rw [Ax.wrap_within (by simp only [kLo];omega) (by simp only [kHi];omega)] at f0;omega) (Z4p hz g) (Z4v hz g) (Z4u hz g) (Z4t hz g) (Z4s hz g) (Z4r hz g) (Z4q hz g)
theorem Zj2 (hI:Qrp n0 w0 pl n) {z:Nat} (g:z<30->DAt n0 w0 cs0 pl n ((z+1:Nat):Int)):DG n0 w0 cs0 pl n 396 (z:Int) (Z6r.am 8000):=λX m hX hx h=>by
 have f0:=(h.ctx.2 _ (List.mem_of_getElem? (show Z6r.fs[0]?=some ⟨.lss, .var 396, .lit (.ofNat 30),true⟩ by kernel_rfl))).1
 simp only [Fact.ok,Yf,E.den,hx,Int.ofNat_eq_natCast,decide_eq_true_eq] at f0;have hz:z<30:=by omega
 exact Zj1 hI hz (g hz) X m hX hx h
theorem Z6l (hI:Qrp n0 w0 pl n) {z:Nat} (g:z<30->DAt n0 w0 cs0 pl n ((z+1:Nat):Int)):DG n0 w0 cs0 pl n 396 (z:Int) (Zaj.am 8000):=Qov dqBt2<|fc (Qos (Zj2 hI g))<|fn_
theorem Qp2 {z:Nat} (hz:z<30) (g:DAt n0 w0 cs0 pl n ((z+1:Nat):Int)):DG n0 w0 cs0 pl n 396 (z:Int) (Qpr.am 8000):=Qov Z79<|fc (Qot hz g.2.2)<|fc (Qot hz g.2.1)<|fn_
theorem Qp1 {z:Nat} (hz:z<30) (g:DAt n0 w0 cs0 pl n ((z+1:Nat):Int)):DG n0 w0 cs0 pl n 396 (z:Int) (Qpq.am 8000):=Qov Z78<|fc (Qot hz g.2.2)<|fc (Qot hz g.2.1)<|fn_
theorem Qp0 {z:Nat} (hz:z<30) (g:DAt n0 w0 cs0 pl n ((z+1:Nat):Int)):DG n0 w0 cs0 pl n 396 (z:Int) (Qpp.am 8000):=Qov Z77<|fc (Qot hz g.2.2)<|fc (Qot hz g.2.1)<|fn_
theorem Z9x {z:Nat} (hz:z<30) (g:DAt n0 w0 cs0 pl n ((z+1:Nat):Int)):DG n0 w0 cs0 pl n 396 (z:Int) (Z43.am 8000):=Qov Zhq<|fc (Qot hz g.2.2)<|fc (Qot hz g.2.1)<|fn_
theorem Z9w {z:Nat} (hz:z<30) (g:DAt n0 w0 cs0 pl n ((z+1:Nat):Int)):DG n0 w0 cs0 pl n 396 (z:Int) (Qwe.am 8000):=Qov Zhp<|fc (Qot hz g.2.2)<|fc (Qot hz g.2.1)<|fn_
theorem Z9v {z:Nat} (hz:z<30) (g:DAt n0 w0 cs0 pl n ((z+1:Nat):Int)):DG n0 w0 cs0 pl n 396 (z:Int) (Z42.am 8000):=Qov Zho<|fc (Qot hz g.2.2)<|fc (Qot hz g.2.1)<|fn_
theorem Z4i {z:Nat} (hz:z<30) (g:DAt n0 w0 cs0 pl n ((z+1:Nat):Int)):DG n0 w0 cs0 pl n 396 (z:Int) Qr3:=Qov Z7v<|fc (Qot hz g.2.2)<|fc (Qot hz g.2.1)<|fc (Qos (Z9x hz g))<|fc (Qos (Z9w hz g))<|fc (Qos (Z9v hz g))<|fn_
theorem Z4o {z:Nat} (hz:z<30) (g:DAt n0 w0 cs0 pl n ((z+1:Nat):Int)):DG n0 w0 cs0 pl n 396 (z:Int) Z10:=Qov Z81<|fc (Qot hz g.2.2)<|fc (Qot hz g.2.1)<|fc (Qos (Qp2 hz g))<|fc (Qos (Qp1 hz g))<|fc (Qos (Qp0 hz g))<|fc (Qos (Qp2 hz g))<|fc (Qos (Qp1 hz g))<|fc (Qos (Qp0 hz g))<|fc (Qos (Qp2 hz g))<|fc (Qos (Qp1 hz g))<|fc (Qos (Qp0 hz g))<|fn_
theorem Z4n {z:Nat} (hz:z<30) (g:DAt n0 w0 cs0 pl n ((z+1:Nat):Int)):DG n0 w0 cs0 pl n 396 (z:Int) Z0z:=Qov Z80<|fc (Qot hz g.2.2)<|fc (Qot hz g.2.1)<|fc (Qos (Qp2 hz g))<|fc (Qos (Qp1 hz g))<|fc (Qos (Qp0 hz g))<|fc (Qos (Qp2 hz g))<|fc (Qos (Qp1 hz g))<|fc (Qos (Qp0 hz g))<|fc (Qos (Qp2 hz g))<|fc (Qos (Qp1 hz g))<|fc (Qos (Qp0 hz g))<|fn_
theorem Z4m {z:Nat} (hz:z<30) (g:DAt n0 w0 cs0 pl n ((z+1:Nat):Int)):DG n0 w0 cs0 pl n 396 (z:Int) Z0y:=Qov Z7z<|fc (Qot hz g.2.2)<|fc (Qot hz g.2.1)<|fc (Qos (Qp2 hz g))<|fc (Qos (Qp1 hz g))<|fc (Qos (Qp0 hz g))<|fc (Qos (Qp2 hz g))<|fc (Qos (Qp1 hz g))<|fc (Qos (Qp0 hz g))<|fc (Qos (Qp2 hz g))<|fc (Qos (Qp1 hz g))<|fc (Qos (Qp0 hz g))<|fn_
theorem Z4l {z:Nat} (hz:z<30) (g:DAt n0 w0 cs0 pl n ((z+1:Nat):Int)):DG n0 w0 cs0 pl n 396 (z:Int) Z0x:=Qov Z7y<|fc (Qot hz g.2.2)<|fc (Qot hz g.2.1)<|fc (Qos (Qp2 hz g))<|fc (Qos (Qp1 hz g))<|fc (Qos (Qp0 hz g))<|fc (Qos (Qp2 hz g))<|fc (Qos (Qp1 hz g))<|fc (Qos (Qp0 hz g))<|fc (Qos (Qp2 hz g))<|fc (Qos (Qp1 hz g))<|fc (Qos (Qp0 hz g))<|fn_
theorem Z4k {z:Nat} (hz:z<30) (g:DAt n0 w0 cs0 pl n ((z+1:Nat):Int)):DG n0 w0 cs0 pl n 396 (z:Int) Z0w:=Qov Z7x<|fc (Qot hz g.2.2)<|fc (Qot hz g.2.1)<|fc (Qos (Qp2 hz g))<|fc (Qos (Qp1 hz g))<|fc (Qos (Qp0 hz g))<|fc (Qos (Qp2 hz g))<|fc (Qos (Qp1 hz g))<|fc (Qos (Qp0 hz g))<|fc (Qos (Qp2 hz g))<|fc (Qos (Qp1 hz g))<|fc (Qos (Qp0 hz g))<|fn_
theorem Z4j {z:Nat} (hz:z<30) (g:DAt n0 w0 cs0 pl n ((z+1:Nat):Int)):DG n0 w0 cs0 pl n 396 (z:Int) Z0v:=Qov Z7w<|fc (Qot hz g.2.2)<|fc (Qot hz g.2.1)<|fc (Qos (Qp2 hz g))<|fc (Qos (Qp1 hz g))<|fc (Qos (Qp0 hz g))<|fc (Qos (Qp2 hz g))<|fc (Qos (Qp1 hz g))<|fc (Qos (Qp0 hz g))<|fc (Qos (Qp2 hz g))<|fc (Qos (Qp1 hz g))<|fc (Qos (Qp0 hz g))<|fn_
theorem Ziz (hI:Qrp n0 w0 pl n) {z:Nat} (hz:z<30) (g:DAt n0 w0 cs0 pl n ((z+1:Nat):Int)):DG n0 w0 cs0 pl n 396 (z:Int) (Z6q.am 8000):=
 Qrx (e:= .var 396) (i:=z) hI (by kernel_rfl) rfl rfl (by kernel_rfl) (by kernel_rfl) (by kernel_rfl) (by kernel_rfl) (r:=(Sp.qX frD Z6q.next).getD ⟨[],0,[],[]⟩) (by kernel_rfl) (by kernel_rfl) (λ_ h=>h) (by kernel_rfl) (by kernel_rfl) (by kernel_rfl) (by kernel_rfl) (by kernel_rfl) (by kernel_rfl) (by kernel_rfl) (λX hX hx hc=>by
  have f0:=(hc.2 _ (List.mem_of_getElem? (show Z6q.fs[1]?=some ⟨.gtr, .bin .sub .i64 (.var 16) (.var 396), .lit (.ofNat 0),true⟩ by kernel_rfl))).1
  have f1:=(hc.2 _ (List.mem_of_getElem? (show Z6q.fs[5]?=some ⟨.leq, .var 16, .lit (.ofNat 9223372036854775807),true⟩ by kernel_rfl))).1
  simp only [Fact.ok,Yf,E.den,Zp,hX.l,hx,Int.ofNat_eq_natCast,decide_eq_true_eq] at f0 f1;rw [Ax.wrap_within (by simp only [kLo];omega) (by simp only [kHi];omega)] at f0;omega) (Z4i hz g) (Z4o hz g) (Z4n hz g) (Z4m hz g) (Z4l hz g) (Z4k hz g) (Z4j hz g)
theorem Zj0 (hI:Qrp n0 w0 pl n) {z:Nat} (g:z<30->DAt n0 w0 cs0 pl n ((z+1:Nat):Int)):DG n0 w0 cs0 pl n 396 (z:Int) (Z6q.am 8000):=λX m hX hx h=>by
 have f0:=(h.ctx.2 _ (List.mem_of_getElem? (show Z6q.fs[0]?=some ⟨.lss, .var 396, .lit (.ofNat 30),true⟩ by kernel_rfl))).1
 simp only [Fact.ok,Yf,E.den,hx,Int.ofNat_eq_natCast,decide_eq_true_eq] at f0;have hz:z<30:=by omega
 exact Ziz hI hz (g hz) X m hX hx h
theorem Z6k (hI:Qrp n0 w0 pl n) {z:Nat} (g:z<30->DAt n0 w0 cs0 pl n ((z+1:Nat):Int)):DG n0 w0 cs0 pl n 396 (z:Int) (Zaq.am 8000):=Qov dqBt3<|fc (Qos (Zj0 hI g))<|fn_
theorem Qty (hI:Qrp n0 w0 pl n):∀(k z:Nat),30<=z+k->DAt n0 w0 cs0 pl n (z:Int)
 |0,z,h=>⟨Z6m hI λhz=>absurd hz (by omega),Z6l hI λhz=>absurd hz (by omega),Z6k hI λhz=>absurd hz (by omega)⟩
 |k+1,z,h=>⟨Z6m hI λ_=>Qty hI k (z+1) (by omega),Z6l hI λ_=>Qty hI k (z+1) (by omega),Z6k hI λ_=>Qty hI k (z+1) (by omega)⟩
theorem Zix (hI:Qrp n0 w0 pl n):DG n0 w0 cs0 pl n 16 (n:Int) (dBt0.am 8000):=Qov dqBt0<|fc (Qou (Zj5 hI (Qty hI 29 1 (by omega))))<|fn_
theorem dSt_g (hI:Qrp n0 w0 pl n):DG n0 w0 cs0 pl n 16 (n:Int) (dS true):=Qov dqSt<|fc (Qou (Zix hI))<|fn_
end
end Go.Proofs.YtmfeholdlgfpbaaGreatDoor
