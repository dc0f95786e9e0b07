/- Lemmas of this claim: Record, Record2, Judge, ModA, ModB, ModC, ModE, MkL. Conditions: as named. -/
import Derived.Shelf.Abstract
import Derived.Test.YtnbclgbicnpmnaaGreatA03
namespace Go.Proofs.YtnbclgbicnpmnaaGreat
open Go.RowKit Go.Sort Tryz
set_option maxHeartbeats 0
set_option maxRecDepth 100000
set_option linter.all false
def Xk(st op:Int):Int:=if op=1 then(if st=0 then 1 else 0)else if op=4∨op=5∨op=6 then(if st=0 then 0 else -1)else 0
theorem L9(op:Int):op=1∨op=4∨op=5∨op=6∨(op≠1∧op≠4∧op≠5∧op≠6):=by omega
theorem Zkt(op:Int):op=1∨op=2∨op=3∨op=4∨op=5∨op=6∨op=7∨(op<1∨7<op):=by omega
theorem Ih(st ow dl op:Int)(nm:ByteArray)(w:World) :
 Calls prog 161 #[.agg #[.int .i64 st,.int .i64 ow,.string nm,.int .i64 dl],.int .i64 op] w fun e w'=>e=.returned (.int .i64 (Xk st op))∧Ext w w':=by
 by_cases hs:st=0
 ·subst hs;rcases L9 op with rfl|rfl|rfl|rfl|h
  ·have H:=Y8 (show Xk 0 1=1 by simp[Xk]);go_enter func161,ntmps161;go_wp2;go_ret;exact⟨by rw[H.o];rfl,xE⟩
  ·have H:=Y8 (show Xk 0 4=0 by simp[Xk]);go_enter func161,ntmps161;go_wp2;go_ret;exact⟨by rw[H.o];rfl,xE⟩
  ·have H:=Y8 (show Xk 0 5=0 by simp[Xk]);go_enter func161,ntmps161;go_wp2;go_ret;exact⟨by rw[H.o];rfl,xE⟩
  ·have H:=Y8 (show Xk 0 6=0 by simp[Xk]);go_enter func161,ntmps161;go_wp2;go_ret;exact⟨by rw[H.o];rfl,xE⟩
  have H:=Y8 (show Xk 0 op=0 by simp[Xk,h.1,h.2.1,h.2.2.1,h.2.2.2]);obtain⟨h1,h2,h3,h4⟩:=h;go_enter func161,ntmps161;go_wp2;go_ret;exact⟨by rw[H.o];rfl,xE⟩
 rcases L9 op with rfl|rfl|rfl|rfl|h
 ·have H:=Y8 (show Xk st 1=0 by simp[Xk,hs]);go_enter func161,ntmps161;go_wp2;go_ret;exact⟨by rw[H.o];rfl,xE⟩
 ·have H:=Y8 (show Xk st 4 = -1 by simp[Xk,hs]);go_enter func161,ntmps161;go_wp2;go_ret;exact⟨by rw[H.o];rfl,xE⟩
 ·have H:=Y8 (show Xk st 5 = -1 by simp[Xk,hs]);go_enter func161,ntmps161;go_wp2;go_ret;exact⟨by rw[H.o];rfl,xE⟩
 ·have H:=Y8 (show Xk st 6 = -1 by simp[Xk,hs]);go_enter func161,ntmps161;go_wp2;go_ret;exact⟨by rw[H.o];rfl,xE⟩
 have H:=Y8 (show Xk st op=0 by simp[Xk,h.1,h.2.1,h.2.2.1,h.2.2.2]);obtain⟨h1,h2,h3,h4⟩:=h;go_enter func161,ntmps161;go_wp2;go_ret;exact⟨by rw[H.o];rfl,xE⟩
theorem Ri(st ow dl op:Int)(nm:ByteArray)(w:World) :
 Calls prog 103 #[.agg #[.int .i64 st,.int .i64 ow,.string nm,.int .i64 dl],.int .i64 op] w fun e w'=>e=.returned (.int .i64 (Xk st op))∧Ext w w':=by
 by_cases hs:st=0
 ·subst hs;rcases L9 op with rfl|rfl|rfl|rfl|h
  ·have H:=Y8 (show Xk 0 1=1 by simp[Xk]);go_enter func103,ntmps103;go_wp2;go_ret;exact⟨by rw[H.o];rfl,xE⟩
  ·have H:=Y8 (show Xk 0 4=0 by simp[Xk]);go_enter func103,ntmps103;go_wp2;go_ret;exact⟨by rw[H.o];rfl,xE⟩
  ·have H:=Y8 (show Xk 0 5=0 by simp[Xk]);go_enter func103,ntmps103;go_wp2;go_ret;exact⟨by rw[H.o];rfl,xE⟩
  ·have H:=Y8 (show Xk 0 6=0 by simp[Xk]);go_enter func103,ntmps103;go_wp2;go_ret;exact⟨by rw[H.o];rfl,xE⟩
  have H:=Y8 (show Xk 0 op=0 by simp[Xk,h.1,h.2.1,h.2.2.1,h.2.2.2]);obtain⟨h1,h2,h3,h4⟩:=h;go_enter func103,ntmps103;go_wp2;go_ret;exact⟨by rw[H.o];rfl,xE⟩
 rcases L9 op with rfl|rfl|rfl|rfl|h
 ·have H:=Y8 (show Xk st 1=0 by simp[Xk,hs]);go_enter func103,ntmps103;go_wp2;go_ret;exact⟨by rw[H.o];rfl,xE⟩
 ·have H:=Y8 (show Xk st 4 = -1 by simp[Xk,hs]);go_enter func103,ntmps103;go_wp2;go_ret;exact⟨by rw[H.o];rfl,xE⟩
 ·have H:=Y8 (show Xk st 5 = -1 by simp[Xk,hs]);go_enter func103,ntmps103;go_wp2;go_ret;exact⟨by rw[H.o];rfl,xE⟩
 ·have H:=Y8 (show Xk st 6 = -1 by simp[Xk,hs]);go_enter func103,ntmps103;go_wp2;go_ret;exact⟨by rw[H.o];rfl,xE⟩
 have H:=Y8 (show Xk st op=0 by simp[Xk,h.1,h.2.1,h.2.2.1,h.2.2.2]);obtain⟨h1,h2,h3,h4⟩:=h;go_enter func103,ntmps103;go_wp2;go_ret;exact⟨by rw[H.o];rfl,xE⟩
def Jh(st op:Int):Int:=if op=1 then 1 else if op=2 then 2 else if op=4∨op=5∨op=6 then 0 else st
def J5(ow op client:Int):Int:=if op=1 then client else if op=4∨op=5∨op=6 then 0 else ow
def Ko(nm:ByteArray)(op:Int)(name:ByteArray):ByteArray:=if op=1 then name else if op=4∨op=5∨op=6 then⟨#[]⟩else nm
def J4(dl op deadline:Int):Int:=if op=1 then deadline else if op=2 then 0 else if op=3 then deadline else if op=4∨op=5∨op=6 then 0 else dl
theorem Tc(st ow dl op client deadline:Int)(nm name:ByteArray)(w:World) :
 Calls prog 162 #[.agg #[.int .i64 st,.int .i64 ow,.string nm,.int .i64 dl],.int .i64 op,.int .i64 client,.string name,.int .i64 deadline] w fun e w' =>
  e=.returned (.agg #[.int .i64 (Jh st op),.int .i64 (J5 ow op client),.string (Ko nm op name),.int .i64 (J4 dl op deadline)])∧Ext w w':=by
 rcases Zkt op with rfl|rfl|rfl|rfl|rfl|rfl|rfl|h
 ·go_enter func162,ntmps162;go_wp2;exact Ys (v:=.agg #[.int .i64 (Jh st 1),.int .i64 (J5 ow 1 client),.string (Ko nm 1 name),.int .i64 (J4 dl 1 deadline)]) (by simp[results,results162,go_sem,Jh,J5,Ko,J4]) rfl ⟨rfl,xE⟩
 ·go_enter func162,ntmps162;go_wp2;exact Ys (v:=.agg #[.int .i64 (Jh st 2),.int .i64 (J5 ow 2 client),.string (Ko nm 2 name),.int .i64 (J4 dl 2 deadline)]) (by simp[results,results162,go_sem,Jh,J5,Ko,J4]) rfl ⟨rfl,xE⟩
 ·go_enter func162,ntmps162;go_wp2;exact Ys (v:=.agg #[.int .i64 (Jh st 3),.int .i64 (J5 ow 3 client),.string (Ko nm 3 name),.int .i64 (J4 dl 3 deadline)]) (by simp[results,results162,go_sem,Jh,J5,Ko,J4]) rfl ⟨rfl,xE⟩
 ·go_enter func162,ntmps162;go_wp2;exact Ys (v:=.agg #[.int .i64 (Jh st 4),.int .i64 (J5 ow 4 client),.string (Ko nm 4 name),.int .i64 (J4 dl 4 deadline)]) (by simp[results,results162,go_sem,Jh,J5,Ko,J4]) rfl ⟨rfl,xE⟩
 ·go_enter func162,ntmps162;go_wp2;exact Ys (v:=.agg #[.int .i64 (Jh st 5),.int .i64 (J5 ow 5 client),.string (Ko nm 5 name),.int .i64 (J4 dl 5 deadline)]) (by simp[results,results162,go_sem,Jh,J5,Ko,J4]) rfl ⟨rfl,xE⟩
 ·go_enter func162,ntmps162;go_wp2;exact Ys (v:=.agg #[.int .i64 (Jh st 6),.int .i64 (J5 ow 6 client),.string (Ko nm 6 name),.int .i64 (J4 dl 6 deadline)]) (by simp[results,results162,go_sem,Jh,J5,Ko,J4]) rfl ⟨rfl,xE⟩
 ·go_enter func162,ntmps162;go_wp2;exact Ys (v:=.agg #[.int .i64 (Jh st 7),.int .i64 (J5 ow 7 client),.string (Ko nm 7 name),.int .i64 (J4 dl 7 deadline)]) (by simp[results,results162,go_sem,Jh,J5,Ko,J4]) rfl ⟨rfl,xE⟩
 have h1:¬ op=1:=by omega
 have h2:¬ op=2:=by omega
 have h3:¬ op=3:=by omega
 have h4:¬ op=4:=by omega
 have h5:¬ op=5:=by omega
 have h6:¬ op=6:=by omega
 go_enter func162,ntmps162;go_wp2;exact Ys (v:=.agg #[.int .i64 (Jh st op),.int .i64 (J5 ow op client),.string (Ko nm op name),.int .i64 (J4 dl op deadline)]) (by simp[results,results162,go_sem,Jh,J5,Ko,J4,h1,h2,h3,h4,h5,h6]) rfl ⟨rfl,xE⟩
theorem Zub(st ow dl op client deadline:Int)(nm name:ByteArray)(w:World) :
 Calls prog 74 #[.agg #[.int .i64 st,.int .i64 ow,.string nm,.int .i64 dl],.int .i64 op,.int .i64 client,.string name,.int .i64 deadline] w fun e w' =>
  e=.returned (.agg #[.int .i64 (Jh st op),.int .i64 (J5 ow op client),.string (Ko nm op name),.int .i64 (J4 dl op deadline)])∧Ext w w':=by
 rcases Zkt op with rfl|rfl|rfl|rfl|rfl|rfl|rfl|h
 ·go_enter func74,ntmps74;go_wp2;exact Ys (v:=.agg #[.int .i64 (Jh st 1),.int .i64 (J5 ow 1 client),.string (Ko nm 1 name),.int .i64 (J4 dl 1 deadline)]) (by simp[results,results74,go_sem,Jh,J5,Ko,J4]) rfl ⟨rfl,xE⟩
 ·go_enter func74,ntmps74;go_wp2;exact Ys (v:=.agg #[.int .i64 (Jh st 2),.int .i64 (J5 ow 2 client),.string (Ko nm 2 name),.int .i64 (J4 dl 2 deadline)]) (by simp[results,results74,go_sem,Jh,J5,Ko,J4]) rfl ⟨rfl,xE⟩
 ·go_enter func74,ntmps74;go_wp2;exact Ys (v:=.agg #[.int .i64 (Jh st 3),.int .i64 (J5 ow 3 client),.string (Ko nm 3 name),.int .i64 (J4 dl 3 deadline)]) (by simp[results,results74,go_sem,Jh,J5,Ko,J4]) rfl ⟨rfl,xE⟩
 ·go_enter func74,ntmps74;go_wp2;exact Ys (v:=.agg #[.int .i64 (Jh st 4),.int .i64 (J5 ow 4 client),.string (Ko nm 4 name),.int .i64 (J4 dl 4 deadline)]) (by simp[results,results74,go_sem,Jh,J5,Ko,J4]) rfl ⟨rfl,xE⟩
 ·go_enter func74,ntmps74;go_wp2;exact Ys (v:=.agg #[.int .i64 (Jh st 5),.int .i64 (J5 ow 5 client),.string (Ko nm 5 name),.int .i64 (J4 dl 5 deadline)]) (by simp[results,results74,go_sem,Jh,J5,Ko,J4]) rfl ⟨rfl,xE⟩
 ·go_enter func74,ntmps74;go_wp2;exact Ys (v:=.agg #[.int .i64 (Jh st 6),.int .i64 (J5 ow 6 client),.string (Ko nm 6 name),.int .i64 (J4 dl 6 deadline)]) (by simp[results,results74,go_sem,Jh,J5,Ko,J4]) rfl ⟨rfl,xE⟩
 ·go_enter func74,ntmps74;go_wp2;exact Ys (v:=.agg #[.int .i64 (Jh st 7),.int .i64 (J5 ow 7 client),.string (Ko nm 7 name),.int .i64 (J4 dl 7 deadline)]) (by simp[results,results74,go_sem,Jh,J5,Ko,J4]) rfl ⟨rfl,xE⟩
 have h1:¬ op=1:=by omega
 have h2:¬ op=2:=by omega
 have h3:¬ op=3:=by omega
 have h4:¬ op=4:=by omega
 have h5:¬ op=5:=by omega
 have h6:¬ op=6:=by omega
 go_enter func74,ntmps74;go_wp2;exact Ys (v:=.agg #[.int .i64 (Jh st op),.int .i64 (J5 ow op client),.string (Ko nm op name),.int .i64 (J4 dl op deadline)]) (by simp[results,results74,go_sem,Jh,J5,Ko,J4,h1,h2,h3,h4,h5,h6]) rfl ⟨rfl,xE⟩
def Qo(st ow dl state client now:Int):Int :=
 if Kd st dl now=false then 23 else if ow=client then(if st=state then 0 else 26)else 25
def Vf(st ow dl op client now:Int):Int :=
 if op=1 then(if Kd st dl now=true then 24 else 0)
 else if op=2∨op=3∨op=4 then Qo st ow dl 1 client now
 else if op=5 then Qo st ow dl 2 client now
 else if op=6 then(if st=0 then 23 else if Kd st dl now=true then 26 else 0)
 else if op=7 then 0 else 1
theorem Dg(st ow dl state client now:Int)(nm:ByteArray)(w:World) :
 Calls prog 174 #[.agg #[.int .i64 st,.int .i64 ow,.string nm,.int .i64 dl],.int .i64 state,.int .i64 client,.int .i64 now] w fun e w'=>e=.returned (.int .i64 (Qo st ow dl state client now))∧Ext w w':=by
 cases hl:Kd st dl now
 ·have H:=Y8 (show Qo st ow dl state client now=23 by simp[Qo,hl]);go_enter func174,ntmps174;go_wp2_with (go_at_call 163;refine(Ql _ _ _ _ _ _).mono ?_;rintro e w1 ⟨rfl,hy⟩;(first|(have hx:=hx.trans hy)|(have hx:=hy));have hc:=fun i=>hx.cell (p:=⟨w.heap.size,i,none⟩) (by first|(simp;done)|(simp;omega));have hz:=fun i=>hx.frozen (p:=⟨w.heap.size,i,none⟩) (by first|(simp;done)|(simp;omega));have hs:w.heap.size+1≤w1.heap.size:=by(have hs1:=hx.size;simp at hs1;omega));go_ret;exact⟨by rw[H.o];rfl,xE⟩
 by_cases ho:ow=client
 ·subst ho;by_cases hs:st=state
  ·subst hs;have H:=Y8 (show Qo st ow dl st ow now=0 by simp[Qo,hl]);go_enter func174,ntmps174;go_wp2_with (go_at_call 163;refine(Ql _ _ _ _ _ _).mono ?_;rintro e w1 ⟨rfl,hy⟩;(first|(have hx:=hx.trans hy)|(have hx:=hy));have hc:=fun i=>hx.cell (p:=⟨w.heap.size,i,none⟩) (by first|(simp;done)|(simp;omega));have hz:=fun i=>hx.frozen (p:=⟨w.heap.size,i,none⟩) (by first|(simp;done)|(simp;omega));have hs:w.heap.size+1≤w1.heap.size:=by(have hs1:=hx.size;simp at hs1;omega));go_ret;exact⟨by rw[H.o];rfl,xE⟩
  have H:=Y8 (show Qo st ow dl state ow now=26 by simp[Qo,hl,hs]);go_enter func174,ntmps174;go_wp2_with (go_at_call 163;refine(Ql _ _ _ _ _ _).mono ?_;rintro e w1 ⟨rfl,hy⟩;(first|(have hx:=hx.trans hy)|(have hx:=hy));have hc:=fun i=>hx.cell (p:=⟨w.heap.size,i,none⟩) (by first|(simp;done)|(simp;omega));have hz:=fun i=>hx.frozen (p:=⟨w.heap.size,i,none⟩) (by first|(simp;done)|(simp;omega));have hs:w.heap.size+1≤w1.heap.size:=by(have hs1:=hx.size;simp at hs1;omega));go_ret;exact⟨by rw[H.o];rfl,xE⟩
 have H:=Y8 (show Qo st ow dl state client now=25 by simp[Qo,hl,ho]);go_enter func174,ntmps174;go_wp2_with (go_at_call 163;refine(Ql _ _ _ _ _ _).mono ?_;rintro e w1 ⟨rfl,hy⟩;(first|(have hx:=hx.trans hy)|(have hx:=hy));have hc:=fun i=>hx.cell (p:=⟨w.heap.size,i,none⟩) (by first|(simp;done)|(simp;omega));have hz:=fun i=>hx.frozen (p:=⟨w.heap.size,i,none⟩) (by first|(simp;done)|(simp;omega));have hs:w.heap.size+1≤w1.heap.size:=by(have hs1:=hx.size;simp at hs1;omega));go_ret;exact⟨by rw[H.o];rfl,xE⟩
theorem Zq0(op:Int):op=1∨op=2∨op=3∨op=4∨op=5∨op=6∨op=7∨(op<1∨7<op):=by omega
theorem Zw9(st ow dl op client now:Int)(nm:ByteArray)(w:World) :
 Calls prog 160 #[.agg #[.int .i64 st,.int .i64 ow,.string nm,.int .i64 dl],.int .i64 op,.int .i64 client,.int .i64 now] w fun e w'=>e=.returned (.int .i64 (Vf st ow dl op client now))∧Ext w w':=by
 rcases Zq0 op with rfl|rfl|rfl|rfl|rfl|rfl|rfl|h
 ·cases hl:Kd st dl now
  ·have H:=Y8 (show Vf st ow dl 1 client now=0 by simp[Vf,hl]);go_enter func160,ntmps160;go_wp2_with (go_at_call 163;refine(Ql _ _ _ _ _ _).mono ?_;rintro e w1 ⟨rfl,hy⟩;(first|(have hx:=hx.trans hy)|(have hx:=hy));have hc:=fun i=>hx.cell (p:=⟨w.heap.size,i,none⟩) (by first|(simp;done)|(simp;omega));have hz:=fun i=>hx.frozen (p:=⟨w.heap.size,i,none⟩) (by first|(simp;done)|(simp;omega));have hs:w.heap.size+1≤w1.heap.size:=by(have hs1:=hx.size;simp at hs1;omega));go_ret;exact⟨by rw[H.o];rfl,xE⟩
  have H:=Y8 (show Vf st ow dl 1 client now=24 by simp[Vf,hl]);go_enter func160,ntmps160;go_wp2_with (go_at_call 163;refine(Ql _ _ _ _ _ _).mono ?_;rintro e w1 ⟨rfl,hy⟩;(first|(have hx:=hx.trans hy)|(have hx:=hy));have hc:=fun i=>hx.cell (p:=⟨w.heap.size,i,none⟩) (by first|(simp;done)|(simp;omega));have hz:=fun i=>hx.frozen (p:=⟨w.heap.size,i,none⟩) (by first|(simp;done)|(simp;omega));have hs:w.heap.size+1≤w1.heap.size:=by(have hs1:=hx.size;simp at hs1;omega));go_ret;exact⟨by rw[H.o];rfl,xE⟩
 ·have H:=Y8 (show Vf st ow dl 2 client now=Qo st ow dl 1 client now by simp[Vf]);go_enter func160,ntmps160;go_wp2_with (go_at_call 174;refine(Dg _ _ _ _ _ _ _ _).mono ?_;rintro e w1 ⟨rfl,hy⟩;(first|(have hx:=hx.trans hy)|(have hx:=hy));have hc:=fun i=>hx.cell (p:=⟨w.heap.size,i,none⟩) (by first|(simp;done)|(simp;omega));have hz:=fun i=>hx.frozen (p:=⟨w.heap.size,i,none⟩) (by first|(simp;done)|(simp;omega));have hs:w.heap.size+1≤w1.heap.size:=by(have hs1:=hx.size;simp at hs1;omega));go_ret;exact⟨by rw[H.o];rfl,xE⟩
 ·have H:=Y8 (show Vf st ow dl 3 client now=Qo st ow dl 1 client now by simp[Vf]);go_enter func160,ntmps160;go_wp2_with (go_at_call 174;refine(Dg _ _ _ _ _ _ _ _).mono ?_;rintro e w1 ⟨rfl,hy⟩;(first|(have hx:=hx.trans hy)|(have hx:=hy));have hc:=fun i=>hx.cell (p:=⟨w.heap.size,i,none⟩) (by first|(simp;done)|(simp;omega));have hz:=fun i=>hx.frozen (p:=⟨w.heap.size,i,none⟩) (by first|(simp;done)|(simp;omega));have hs:w.heap.size+1≤w1.heap.size:=by(have hs1:=hx.size;simp at hs1;omega));go_ret;exact⟨by rw[H.o];rfl,xE⟩
 ·have H:=Y8 (show Vf st ow dl 4 client now=Qo st ow dl 1 client now by simp[Vf]);go_enter func160,ntmps160;go_wp2_with (go_at_call 174;refine(Dg _ _ _ _ _ _ _ _).mono ?_;rintro e w1 ⟨rfl,hy⟩;(first|(have hx:=hx.trans hy)|(have hx:=hy));have hc:=fun i=>hx.cell (p:=⟨w.heap.size,i,none⟩) (by first|(simp;done)|(simp;omega));have hz:=fun i=>hx.frozen (p:=⟨w.heap.size,i,none⟩) (by first|(simp;done)|(simp;omega));have hs:w.heap.size+1≤w1.heap.size:=by(have hs1:=hx.size;simp at hs1;omega));go_ret;exact⟨by rw[H.o];rfl,xE⟩
 ·have H:=Y8 (show Vf st ow dl 5 client now=Qo st ow dl 2 client now by simp[Vf]);go_enter func160,ntmps160;go_wp2_with (go_at_call 174;refine(Dg _ _ _ _ _ _ _ _).mono ?_;rintro e w1 ⟨rfl,hy⟩;(first|(have hx:=hx.trans hy)|(have hx:=hy));have hc:=fun i=>hx.cell (p:=⟨w.heap.size,i,none⟩) (by first|(simp;done)|(simp;omega));have hz:=fun i=>hx.frozen (p:=⟨w.heap.size,i,none⟩) (by first|(simp;done)|(simp;omega));have hs:w.heap.size+1≤w1.heap.size:=by(have hs1:=hx.size;simp at hs1;omega));go_ret;exact⟨by rw[H.o];rfl,xE⟩
 ·by_cases hs:st=0
  ·subst hs;have H:=Y8 (show Vf 0 ow dl 6 client now=23 by simp[Vf]);go_enter func160,ntmps160;go_wp2_with (go_at_call 163;refine(Ql _ _ _ _ _ _).mono ?_;rintro e w1 ⟨rfl,hy⟩;(first|(have hx:=hx.trans hy)|(have hx:=hy));have hc:=fun i=>hx.cell (p:=⟨w.heap.size,i,none⟩) (by first|(simp;done)|(simp;omega));have hz:=fun i=>hx.frozen (p:=⟨w.heap.size,i,none⟩) (by first|(simp;done)|(simp;omega));have hs:w.heap.size+1≤w1.heap.size:=by(have hs1:=hx.size;simp at hs1;omega));go_ret;exact⟨by rw[H.o];rfl,xE⟩
  cases hl:Kd st dl now
  ·have H:=Y8 (show Vf st ow dl 6 client now=0 by simp[Vf,hl,hs]);go_enter func160,ntmps160;go_wp2_with (go_at_call 163;refine(Ql _ _ _ _ _ _).mono ?_;rintro e w1 ⟨rfl,hy⟩;(first|(have hx:=hx.trans hy)|(have hx:=hy));have hc:=fun i=>hx.cell (p:=⟨w.heap.size,i,none⟩) (by first|(simp;done)|(simp;omega));have hz:=fun i=>hx.frozen (p:=⟨w.heap.size,i,none⟩) (by first|(simp;done)|(simp;omega));have hs:w.heap.size+1≤w1.heap.size:=by(have hs1:=hx.size;simp at hs1;omega));go_ret;exact⟨by rw[H.o];rfl,xE⟩
  have H:=Y8 (show Vf st ow dl 6 client now=26 by simp[Vf,hl,hs]);go_enter func160,ntmps160;go_wp2_with (go_at_call 163;refine(Ql _ _ _ _ _ _).mono ?_;rintro e w1 ⟨rfl,hy⟩;(first|(have hx:=hx.trans hy)|(have hx:=hy));have hc:=fun i=>hx.cell (p:=⟨w.heap.size,i,none⟩) (by first|(simp;done)|(simp;omega));have hz:=fun i=>hx.frozen (p:=⟨w.heap.size,i,none⟩) (by first|(simp;done)|(simp;omega));have hs:w.heap.size+1≤w1.heap.size:=by(have hs1:=hx.size;simp at hs1;omega));go_ret;exact⟨by rw[H.o];rfl,xE⟩
 ·have H:=Y8 (show Vf st ow dl 7 client now=0 by simp[Vf]);go_enter func160,ntmps160;go_wp2_with (go_at_call 163;refine(Ql _ _ _ _ _ _).mono ?_;rintro e w1 ⟨rfl,hy⟩;(first|(have hx:=hx.trans hy)|(have hx:=hy));have hc:=fun i=>hx.cell (p:=⟨w.heap.size,i,none⟩) (by first|(simp;done)|(simp;omega));have hz:=fun i=>hx.frozen (p:=⟨w.heap.size,i,none⟩) (by first|(simp;done)|(simp;omega));have hs:w.heap.size+1≤w1.heap.size:=by(have hs1:=hx.size;simp at hs1;omega));go_ret;exact⟨by rw[H.o];rfl,xE⟩
 have h1:¬ op=1:=by omega
 have h2:¬ op=2:=by omega
 have h3:¬ op=3:=by omega
 have h4:¬ op=4:=by omega
 have h5:¬ op=5:=by omega
 have h6:¬ op=6:=by omega
 have h7:¬ op=7:=by omega
 have H:=Y8 (show Vf st ow dl op client now=1 by simp[Vf,h1,h2,h3,h4,h5,h6,h7]);go_enter func160,ntmps160;go_wp2_with (go_at_call 163;refine(Ql _ _ _ _ _ _).mono ?_;rintro e w1 ⟨rfl,hy⟩;(first|(have hx:=hx.trans hy)|(have hx:=hy));have hc:=fun i=>hx.cell (p:=⟨w.heap.size,i,none⟩) (by first|(simp;done)|(simp;omega));have hz:=fun i=>hx.frozen (p:=⟨w.heap.size,i,none⟩) (by first|(simp;done)|(simp;omega));have hs:w.heap.size+1≤w1.heap.size:=by(have hs1:=hx.size;simp at hs1;omega));go_ret;exact⟨by rw[H.o];rfl,xE⟩
theorem Zj3{st dl now:Int}(h:Kd st dl now=true):st=2∨st=1:=by
 simp[Kd]at h;omega
theorem Zpf(st ow dl op client now:Int)(nm:ByteArray)(w:World) :
 Calls prog 102 #[.agg #[.int .i64 st,.int .i64 ow,.string nm,.int .i64 dl],.int .i64 op,.int .i64 client,.int .i64 now] w fun e w'=>e=.returned (.int .i64 (Vf st ow dl op client now))∧Ext w w':=by
 rcases Zq0 op with rfl|rfl|rfl|rfl|rfl|rfl|rfl|h
 case' inr.inr.inr.inr.inr.inr.inr =>
  have h1:¬ op=1:=by omega
  have h2:¬ op=2:=by omega
  have h3:¬ op=3:=by omega
  have h4:¬ op=4:=by omega
  have h5:¬ op=5:=by omega
  have h6:¬ op=6:=by omega
  have h7:¬ op=7:=by omega
  have hl:=True.intro;rcases h with h|h
 case' inr.inr.inr.inr.inr.inr.inr.inr=>have h':¬ op<1:=by omega
 case' inr.inr.inr.inr.inr.inl =>
  by_cases hs:st=0
  try subst hs
 all_goals try cases hl:Kd st dl now
 all_goals try(rcases Zj3 hl with rfl|rfl<;>(by_cases ho:ow=client;try subst ho))
 all_goals
  go_enter func102,ntmps102;go_wp2_with (go_at_call 104;refine(Zzx _ _ _ _ _ _).mono ?_;rintro e w1 ⟨rfl,hy⟩;(first|(have hx:=hx.trans hy)|(have hx:=hy));have hc:=fun i=>hx.cell (p:=⟨w.heap.size,i,none⟩) (by first|(simp;done)|(simp;omega));have hz:=fun i=>hx.frozen (p:=⟨w.heap.size,i,none⟩) (by first|(simp;done)|(simp;omega));have hs:w.heap.size+1≤w1.heap.size:=by(have hs1:=hx.size;simp at hs1;omega));go_ret;exact⟨by simp[Vf,Qo, *],xE⟩
def Jz(n:Nm):Bool:=decide (1≤n.a.size)&&decide (n.a.size≤63)
structure Fe(cl client op ttl now:Int)(ns:List Nm):Prop where
 c0:0≤client
 c1:client<cl
 o0:1≤op
 o1:op≤7
 n0:0≤now
 n1:now≤1073741824
 t1:Xh op=true→1≤ttl∧ttl≤1073741824
 t0:Xh op=false→ttl=0
 l0:1≤ns.length
 l1:ns.length≤16
 q:op=7→ns.length≤1
 srt:srt ns=true
 good:ns.all Jz=true
instance (cl client op ttl now:Int) (ns:List Nm):Decidable (Fe cl client op ttl now ns) :=
 decidable_of_iff (0≤client∧client<cl∧1≤op∧op≤7∧0≤now∧now≤1073741824∧(Xh op=true→1≤ttl∧ttl≤1073741824)∧(Xh op=false→ttl=0)∧1≤ns.length∧ns.length≤16∧(op=7→ns.length≤1)∧srt ns=true∧ns.all Jz=true)
  ⟨fun⟨a,b,c,d,e,f,g,h,i,j,k,l,m⟩=>⟨a,b,c,d,e,f,g,h,i,j,k,l,m⟩,fun⟨a,b,c,d,e,f,g,h,i,j,k,l,m⟩=>⟨a,b,c,d,e,f,g,h,i,j,k,l,m⟩⟩
def Jc(cl client op ttl now:Int)(ns:List Nm):Bool:=decide (Fe cl client op ttl now ns)
structure Zzk where
 e:Int
 at_:Int
 nm:ByteArray
 rc:Rc
 tick:Int
def rcV(r:Rc):Value:=.agg #[.int .i64 r.st,.int .i64 r.ow,.string r.nm,.int .i64 r.dl]
def Vw(r:Zzk):Value:=.agg #[.int .i64 r.e,.int .i64 r.at_,.string r.nm,.int .i64 r.rc.st,.int .i64 r.rc.ow,.string r.rc.nm,.int .i64 r.rc.dl,.int .i64 r.tick]
def Zui(cap op client now count:Int)(r:Rc):Int :=
 if Vf r.st r.ow r.dl op client now=0∧0<Xk r.st op∧cap≤count then 7 else Vf r.st r.ow r.dl op client now
def V9(op count:Int)(r:Rc):Int:=if 0<Xk r.st op then count+1 else count
def Vl(cap op client now:Int):Nat→Int→List (Nm×Rc)→Option (Int×Nat×ByteArray)
 | _,_,[]=>none
 | i,count,p::l=>if Zui cap op client now count p.2=0 then Vl cap op client now (i+1) (V9 op count p.2) l else some (Zui cap op client now count p.2,i,p.1.a)
def Wm(cap op client ttl now count:Int)(ps:List (Nm×Rc)):Zzk :=
 if Xh op=true∧1073741824-now<ttl then⟨8,-1,⟨#[]⟩,default,now⟩else
 match Vl cap op client now 0 count ps with
 | some (e,i,n)=>⟨e,i,n,default,now⟩
 | none=>⟨0,-1,⟨#[]⟩,match ps with | []=>default|p::_=>if op=7∧Kd p.2.st p.2.dl now=true then p.2 else default,now⟩
def Wn(op client dl:Int)(n:Nm)(r:Rc):Rc:=⟨Jh r.st op,J5 r.ow op client,Ko r.nm op n.a,J4 r.dl op dl⟩
def Ji(op client dl:Int)(l:List Kp)(ps:List (Nm×Rc)):List Kp:=ps.foldl (fun l p=>Jb l p.1.k (Wn op client dl p.1 p.2)) l
def Qy(l:List Kp)(ns:List Nm):List (Nm×Rc):=ns.map fun n=>(n,Xd l n.k)
def doR(cl cap:Int)(l:List Kp)(client op ttl now:Int)(ns:List Nm):Zzk :=
 if Jc cl client op ttl now ns=true then Wm cap op client ttl now l.length (Qy l ns)else⟨1,-1,⟨#[]⟩,default,0⟩
def doL(cl cap:Int)(l:List Kp)(client op ttl now:Int)(ns:List Nm):List Kp :=
 if Jc cl client op ttl now ns=true∧(Wm cap op client ttl now l.length (Qy l ns)).e=0 then Ji op client (now+ttl) l (Qy l ns)else l
theorem Zod(l:List Kp)(ns:List Nm):(Qy l ns).length=ns.length:=by simp[Qy]
theorem Dz{α:Type}{l:List α}{i:Nat}{x:α}(h:l[i]?=some x):l.drop i=x::l.drop (i+1):=by
 obtain⟨hi,rfl⟩:=Zr.1 h;exact Zep hi
theorem take_at{α:Type}{l:List α}{i:Nat}{x:α}(h:l[i]?=some x):l.take (i+1)=l.take i++[x]:=by rw[Za,h];rfl
def Q8(op:Int)(count:Int)(ps:List (Nm×Rc)):Int:=ps.foldl (fun c p=>V9 op c p.2) count
theorem Zvd(op count:Int)(ps:List (Nm×Rc)):count≤Q8 op count ps∧Q8 op count ps≤count+ps.length:=by
 induction ps generalizing count with
 | nil=>simp[Q8]
 | cons p ps ih =>
  have:=ih (V9 op count p.2);have e:Q8 op count (p::ps)=Q8 op (V9 op count p.2) ps:=rfl;have hn:V9 op count p.2=count∨V9 op count p.2=count+1:=by unfold V9;split<;>simp
  rw[e];simp only[Zl];omega
theorem Ir(op count:Int)(ps:List (Nm×Rc))(p:Nm×Rc):Q8 op count (ps++[p])=V9 op (Q8 op count ps) p.2:=by simp[Q8,Zeg]
theorem Zni{op client d d':Int}(h:Xh op=true→d=d')(n:Nm)(r:Rc):Wn op client d n r=Wn op client d' n r:=by
 unfold Wn;have:J4 r.dl op d=J4 r.dl op d':=by
  unfold J4;by_cases h1:op=1
  ·rw[Zgn h1,Zgn h1,h (by simp[Xh,h1])]
  rw[Zgq h1,Zgq h1];by_cases h2:op=2
  ·rw[Zgn h2,Zgn h2]
  rw[Zgq h2,Zgq h2];by_cases h3:op=3
  ·rw[Zgn h3,Zgn h3,h (by simp[Xh,h3])]
  rw[Zgq h3,Zgq h3]
 rw[this]
theorem F7(st op:Int):Xk st op=1∨Xk st op=0∨Xk st op = -1:=by by_cases h1:op=1<;>by_cases h2:st=0<;>by_cases h3:op=4∨op=5∨op=6<;>simp[Xk,h1,h2,h3]
structure Qu(cap op client now count:Int)(ps:List (Nm×Rc))(i:Nat)(c:Int):Prop where
 le:i≤ps.length
 cnt:c=Q8 op count (ps.take i)
 go:Vl cap op client now 0 count ps=Vl cap op client now i c (ps.drop i)
theorem Qu.start(cap op client now count:Int)(ps:List (Nm×Rc)):Qu cap op client now count ps 0 count:=⟨Zgf _,rfl,rfl⟩
theorem Qu.bd{cap op client now count c:Int}{ps:List (Nm×Rc)}{i:Nat}(h:Qu cap op client now count ps i c):count≤c∧c≤count+i:=by
 have:=Zvd op count (ps.take i);rw[← h.cnt,Zp]at this;omega
theorem Qu.next{cap op client now count c:Int}{ps:List (Nm×Rc)}{i:Nat}{p:Nm×Rc}(h:Qu cap op client now count ps i c)(hp:ps[i]?=some p)(h0:Zui cap op client now c p.2=0) :
 Qu cap op client now count ps (i+1) (V9 op c p.2):=by
 have hi:=(Zr.1 hp).1;refine⟨hi,?_,?_⟩
 ·rw[take_at hp,Ir,← h.cnt]
 rw[h.go,Dz hp,Vl,Zgn h0]
theorem Qu.stop{cap op client now count c:Int}{ps:List (Nm×Rc)}{i:Nat}{p:Nm×Rc}(h:Qu cap op client now count ps i c)(hp:ps[i]?=some p)(h0:Zui cap op client now c p.2≠0) :
 Vl cap op client now 0 count ps=some (Zui cap op client now c p.2,i,p.1.a):=by
 rw[h.go,Dz hp,Vl,Zgq h0]
theorem Qu.done{cap op client now count c:Int}{ps:List (Nm×Rc)}(h:Qu cap op client now count ps ps.length c):Vl cap op client now 0 count ps=none:=by
 rw[h.go,List.drop_length,Vl]
open Go.Maps (Keyed string_keyed)
open Go.ChangeMaps Go.MapKept Go.WideMaps
theorem Pv:prog.underlying 191=some (.map 9 51):=by kernel_rfl
theorem O7:Keyed prog 9:=string_keyed Tryz.underlying9
theorem Zl4(w:World):(zeroValue 51).run prog w=.ok (rcV default) w:=by kernel_rfl
def Zo2:Value→Option (DataW Unit×List MemPlace)
 | .agg ⟨[.int .i64 st,.int .i64 ow,.string nm,.int .i64 dl]⟩=>some (rcD ⟨st,ow,nm,dl⟩,[])
 | _=>none
theorem Zpi(r:Rc):Zo2 (rcV r)=some (rcD r,[]):=rfl
theorem Zwa{v:Value}{z:DataW Unit×List MemPlace}(h:Zo2 v=some z):∃ r,v=rcV r∧z=(rcD r,[]):=by
 unfold Zo2 at h;split at h
 ·simp only[Yc]at h;subst h;exact⟨⟨_,_,_,_⟩,rfl,rfl⟩
 simp at h
theorem Ro{w:World}{b n:Nat}{D:DataW Unit}(h:w.ownsMap prog 9 Zo2 b n D):w.ownsMap prog 9 Zo2 b (Maps.size D) D:=by
 obtain⟨es,clock,hb,F,hs,rfl⟩:=h;refine⟨es,clock,hb,F,?_,rfl⟩;simp[Maps.size,length_sorted]
def MapAt(w:World)(m:Nat)(l:List Kp):Prop:=∃ D,w.ownsMap prog 9 Zo2 m l.length D∧Mo D l
theorem MapAt.lt{w:World}{m:Nat}{l:List Kp}(h:MapAt w m l):m<w.heap.size:=by
 obtain⟨D,h,_⟩:=h;exact h.lt
theorem MapAt.keep{w w':World}{m:Nat}{l:List Kp}(h:MapAt w m l)(hk:w'.heap[m]?=w.heap[m]?):MapAt w' m l:=by
 obtain⟨D,⟨es,clock,hb,r⟩,h2⟩:=h;exact⟨D,⟨es,clock,hk.trans hb,r⟩,h2⟩
theorem MapAt.chg{S:Nat→Prop}{w w':World}{m:Nat}{l:List Kp}(h:MapAt w m l)(c:Chg S w w')(hm:¬ S m):MapAt w' m l:=h.keep (c.block m h.lt hm)
theorem MapAt.ext{w w':World}{m:Nat}{l:List Kp}(h:MapAt w m l)(x:Ext w w'):MapAt w' m l:=h.keep (x.block h.lt)
theorem MapAt.look{w:World}{m:Nat}{l:List Kp}(h:MapAt w m l){key:ByteArray}(hk:key.size≤maxLen):(Instr.lookup 191 (.map (some m)) (.string key) false).run prog w=.ok (rcV (Xd l key)) w:=by
 obtain⟨D,h1,h2⟩:=h;obtain⟨v,ps,hrun,hv⟩:=h1.lookup O7 Pv (Zl4 w) (Zpi default) (keyOf_string_mk Tryz.underlying9 hk);obtain⟨r,rfl,hz⟩:=Zwa hv;have:=h2.get key;simp only[Zfk]at hz;rw[show Lit.string (kb key)=Lit.string key.data.toList from rfl,hz.1]at this;rw[← Zim this];exact hrun
theorem MapAt.len{w:World}{m:Nat}{l:List Kp}(h:MapAt w m l)(ty:TypeId):(Builtin.len_ #[191] ty #[.map (some m)]).run prog w=.ok (.int .i64 (l.length:Int)) w:=by
 obtain⟨D,h1,h2⟩:=h;have:=h1.len Pv ty;rw[h2.size]at this;exact this
theorem MapAt.put{w:World}{m:Nat}{l:List Kp}(h:MapAt w m l)(hl:l.length<maxLen){key:ByteArray}(hk:key.size≤maxLen){r:Rc}(hr:r.st≠0) :
 ∃ w',(Instr.mapUpdate 191 (.map (some m)) (.string key) (rcV r)).run prog w=.ok () w'∧MapAt w' m (Jb l key r)∧Chg (· = m) w w'∧w'.heap.size=w.heap.size:=by
 obtain⟨D,h1,h2⟩:=h;obtain⟨w',hrun,h3,h4⟩:=h1.store O7 Pv hl (keyOf_string_mk Tryz.underlying9 hk) (Zpi r);have h5:=h2.put key r hr;have h6:=Ro h3;rw[show(Lit.string key.data.toList)=.string (kb key) from rfl,h5.size]at h6;refine⟨w',hrun,⟨_,h6,h5⟩,(Chg.refl _ w).grown h4.grown fun k hk=>.inl (by simpa using hk.symm),?_⟩;obtain⟨_,_,_,_,_,rfl⟩:=h4;simp[setBlock]
theorem MapAt.del{w:World}{m:Nat}{l:List Kp}(h:MapAt w m l){key:ByteArray}(hk:key.size≤maxLen){r:Rc}(hr:r.st=0)(ty:TypeId) :
 ∃ w',(Builtin.delete_ #[191,9] ty #[.map (some m),.string key]).run prog w=.ok (.tuple #[]) w'∧MapAt w' m (Jb l key r)∧Chg (· = m) w w'∧w'.heap.size=w.heap.size:=by
 obtain⟨D,h1,h2⟩:=h;obtain⟨w',hrun,h3,h4⟩:=h1.drop O7 Pv (keyOf_string_mk Tryz.underlying9 hk) ty;have h5:=h2.del key r hr;have h6:=Ro h3;rw[show(Lit.string key.data.toList)=.string (kb key) from rfl,h5.size]at h6;refine⟨w',hrun,⟨_,h6,h5⟩,(Chg.refl _ w).grown h4.grown fun k hk=>.inl (by simpa using hk.symm),?_⟩;obtain⟨_,_,_,_,_,rfl⟩:=h4;simp[setBlock]
theorem Zuo(w:World):MapAt (w.alloc (.map #[] 0)) w.heap.size []:=⟨_,World.ownsMap_made w _ _ _,Mo.empty⟩
structure U9(w:World)(b m:Nat)(cl cap:Int)(l:List Kp):Prop where
 c0:w.cell? ⟨b,0,none⟩=some (.int .i64 cl)
 c1:w.cell? ⟨b,1,none⟩=some (.int .i64 cap)
 c2:w.cell? ⟨b,2,none⟩=some (.map (some m))
 lt:b<w.heap.size
 ne:b≠m
 map:MapAt w m l
theorem U9.chg{S:Nat→Prop}{w w':World}{b m:Nat}{cl cap:Int}{l:List Kp}(h:U9 w b m cl cap l)(c:Chg S w w')(hb:¬ S b)(hm:¬ S m):U9 w' b m cl cap l :=
 ⟨(c.cell (p:=⟨b,0,none⟩) h.lt hb).trans h.c0,(c.cell (p:=⟨b,1,none⟩) h.lt hb).trans h.c1,(c.cell (p:=⟨b,2,none⟩) h.lt hb).trans h.c2,Zgp h.lt c.size,h.ne,h.map.chg c hm⟩
theorem U9.ext{w w':World}{b m:Nat}{cl cap:Int}{l:List Kp}(h:U9 w b m cl cap l)(x:Ext w w'):U9 w' b m cl cap l:=h.chg (x.chg (fun _=>False)) (fun h=>h) (fun h=>h)
theorem U9.turn{w w':World}{b m:Nat}{cl cap:Int}{l l':List Kp}(h:U9 w b m cl cap l)(c:Chg (· = m) w w')(hm:MapAt w' m l'):U9 w' b m cl cap l' :=
 ⟨(c.cell (p:=⟨b,0,none⟩) h.lt h.ne).trans h.c0,(c.cell (p:=⟨b,1,none⟩) h.lt h.ne).trans h.c1,(c.cell (p:=⟨b,2,none⟩) h.lt h.ne).trans h.c2,Zgp h.lt c.size,h.ne,hm⟩
def Jx(cl cap:Int):Int:=if cl<1∨64<cl∨cap<1∨64<cap then 3 else 0
theorem P8(cl cap:Int):(decide (cl<1)=true∧Jx cl cap=3)∨(decide (cl<1)=false∧decide (64<cl)=true∧Jx cl cap=3)∨(decide (cl<1)=false∧decide (64<cl)=false∧decide (cap<1)=true∧Jx cl cap=3) ∨
 (decide (cl<1)=false∧decide (64<cl)=false∧decide (cap<1)=false∧decide (64<cap)=true∧Jx cl cap=3)∨(decide (cl<1)=false∧decide (64<cl)=false∧decide (cap<1)=false∧decide (64<cap)=false∧Jx cl cap=0):=by
 by_cases h1:cl<1
 ·exact .inl ⟨by simpa using h1,by simp[Jx,h1]⟩
 by_cases h2:64<cl
 ·exact .inr (.inl ⟨by simpa using h1,by simpa using h2,by simp[Jx,h2]⟩)
 by_cases h3:cap<1
 ·exact .inr (.inr (.inl ⟨by simpa using h1,by simpa using h2,by simpa using h3,by simp[Jx,h3]⟩))
 by_cases h4:64<cap
 ·exact .inr (.inr (.inr (.inl ⟨by simpa using h1,by simpa using h2,by simpa using h3,by simpa using h4,by simp[Jx,h4]⟩)))
 exact .inr (.inr (.inr (.inr ⟨by simpa using h1,by simpa using h2,by simpa using h3,by simpa using h4,by simp[Jx];omega⟩)))
theorem Rr(cl cap:Int)(w:World):Calls prog 121 #[.agg #[.int .i64 cl,.int .i64 cap]] w fun e w'=>e=.returned (.int .i64 (Jx cl cap))∧Ext w w':=by
 rcases P8 cl cap with⟨d1,hc⟩ | ⟨d1,d2,hc⟩ | ⟨d1,d2,d3,hc⟩ | ⟨d1,d2,d3,d4,hc⟩ | ⟨d1,d2,d3,d4,hc⟩<;>(
  rw[hc];clear hc;go_enter func121,ntmps121;go_wp2_with fail;go_ret;exact⟨rfl,xE⟩)
theorem Zxv(cl cap:Int)(w:World):Calls prog 69 #[.agg #[.int .i64 cl,.int .i64 cap]] w fun e w'=>e=.returned (.int .i64 (Jx cl cap))∧Ext w w':=by
 rcases P8 cl cap with⟨d1,hc⟩ | ⟨d1,d2,hc⟩ | ⟨d1,d2,d3,hc⟩ | ⟨d1,d2,d3,d4,hc⟩ | ⟨d1,d2,d3,d4,hc⟩<;>(
  rw[hc];clear hc;go_enter func69,ntmps69;go_wp2_with fail;go_ret;exact⟨rfl,xE⟩)
def Zk9(cl cap:Int)(w:World)(e:Ending)(w':World):Prop :=
 (Jx cl cap=3∧e=.returned (.tuple #[.pointer none,.int .i64 3])∧Ext w w') ∨
 (Jx cl cap=0∧∃ b m,e=.returned (.tuple #[.pointer (some ⟨b,0,none⟩),.int .i64 0])∧U9 w' b m cl cap []∧w.heap.size≤b∧w.heap.size≤m∧Ext w w')
theorem Zwz(cl cap:Int):Jx cl cap=3∨Jx cl cap=0:=by unfold Jx;split<;>simp
theorem Zwh(cl cap:Int)(w:World):Calls prog 83 #[.agg #[.int .i64 cl,.int .i64 cap]] w (Zk9 cl cap w):=by
 have hmm:=@run_makeMap prog;have H:=Y8 (Eq.refl (Jx cl cap));rcases Zwz cl cap with hc|hc
 ·go_enter func83,ntmps83;go_wp2_with fail;refine(Rr cl cap _).mono ?_;rintro x w1 ⟨rfl,hx1⟩;rw[hc];have Hx1:=Y8 (((Yk w).alloc _).trans hx1);have Hc:=Y8 hc;clear hx1 hc;go_wp2_with fail;go_ret2;exact .inl ⟨Hc.o,rfl,Hx1.o⟩
 go_enter func83,ntmps83;go_wp2_with fail;refine(Rr cl cap _).mono ?_;rintro x w1 ⟨rfl,hx1⟩;rw[hc];have k0:w1.cell? ⟨w.heap.size,0,none⟩=some (.int .i64 cl):=(hx1.cell (by simp)).trans (by go_simp);have k1:w1.cell? ⟨w.heap.size,1,none⟩=some (.int .i64 cap):=(hx1.cell (by simp)).trans (by go_simp);have Hx1:=Y8 (((Yk w).alloc _).trans hx1);have Hc:=Y8 hc;clear hx1 hc;go_wp2_with fail;go_ret2;have hz:=Hx1.o.size;refine .inr ⟨Hc.o,w1.heap.size+1,w1.heap.size,rfl,⟨?_,?_,?_,by simp,by omega,?_⟩,by omega,hz,(Hx1.o.alloc _).alloc _⟩
 ·go_simp
 ·go_simp
 ·go_simp
 exact(Zuo w1).ext ((Yk _).alloc _)
open Go.RowKit Go.Sort Go.Shelf
theorem Py(op:Int):((op==1)=true∧Xh op=true)∨((op==1)=false∧(op==3)=true∧Xh op=true)∨((op==1)=false∧(op==3)=false∧Xh op=false):=by
 by_cases h1:op=1
 ·exact .inl ⟨by simpa using h1,by simp[Xh,h1]⟩
 by_cases h3:op=3
 ·exact .inr (.inl ⟨by simpa using h1,by simpa using h3,by simp[Xh,h3]⟩)
 exact .inr (.inr ⟨by simpa using h1,by simpa using h3,by simp[Xh,h1,h3]⟩)
theorem Vb(op:Int)(w:World):Calls prog 156 #[.int .i64 op] w fun e w'=>e=.returned (.bool (Xh op))∧w=w':=by
 rcases Py op with⟨d1,hc⟩ | ⟨d1,d2,hc⟩ | ⟨d1,d2,hc⟩<;>(
  rw[hc];clear hc;go_enter func156,ntmps156;go_wp2_with fail;go_ret;exact⟨rfl,rfl⟩)
theorem Rh(op:Int)(w:World):Calls prog 101 #[.int .i64 op] w fun e w'=>e=.returned (.bool (Xh op))∧w=w':=by
 rcases Py op with⟨d1,hc⟩ | ⟨d1,d2,hc⟩ | ⟨d1,d2,hc⟩<;>(
  rw[hc];clear hc;go_enter func101,ntmps101;go_wp2_with fail;go_ret;exact⟨rfl,rfl⟩)
theorem Zv8(n:Nm):(n.a.toList=[]∧n.a.toList.isEmpty=true∧n.a.size=0∧Jz n=false)∨(n.a.toList.isEmpty=false∧decide ((63:Int)<(n.a.size:Int))=true∧¬ n.a.toList=[]∧63<n.a.size∧Jz n=false)∨(n.a.toList.isEmpty=false∧decide ((63:Int)<(n.a.size:Int))=false∧¬ n.a.toList=[]∧1≤n.a.size∧n.a.size≤63∧Jz n=true):=by
 have e:n.a.toList.length=n.a.size:=by rw[Zg2];rfl
 cases h:n.a.toList with
 | nil=>rw[h]at e;simp at e;exact .inl ⟨rfl,rfl,e.symm,by simp[Jz,← e]⟩
 | cons x r =>
  rw[h]at e;simp at e;by_cases h2:63<n.a.size
  ·exact .inr (.inl ⟨rfl,by simp;omega,by simp,h2,by simp[Jz];omega⟩)
  exact .inr (.inr ⟨rfl,by simp;omega,by simp,by omega,by omega,by simp[Jz];omega⟩)
theorem Zx8(n:Nm)(w:World):Calls prog 158 #[.agg #[.string n.a,.string n.u,.string n.k]] w fun e w'=>e=.returned (.bool (!Jz n))∧Ext w w':=by
 rcases Zv8 n with⟨d1,d2,d3,hc⟩ | ⟨d2,d3,d1,d4,hc⟩ | ⟨d2,d3,d1,d4,d5,hc⟩<;>(
  rw[hc];clear hc;go_enter func158,ntmps158;go_wp2_with fail;go_ret;exact⟨by first|rfl|(simp[d1,d2];done)|(simp;omega),xE⟩)
def Znx(ns:List Nm)(w:World)(e:Ending)(w':World):Prop:=∃ z:Int,e=.returned (.int .i64 z)∧decide (0≤z) = !(ns.all Jz)∧Ext w w'
theorem Znh{ns:List Nm}{k:Nat}{n:Nm}(h:(ns.take k).all Jz=true)(hn:ns[k]?=some n)(hg:Jz n=true):(ns.take (k+1)).all Jz=true:=by
 rw[take_at hn,List.all_append,h];simp[hg]
theorem Ziw{ns:List Nm}{k:Nat}{n:Nm}(hn:ns[k]?=some n)(hg:Jz n=false):ns.all Jz=false:=by
 rw[List.all_eq_false];exact⟨n,Zy hn,by simp[hg]⟩
theorem Zra{S:Nat→Prop}(v:Value)(ns:List Nm)(w:World)(hn:Wo w S v ns) :
 Calls prog 172 #[v,.func (.func 158) #[] #[]] w (Znx ns w):=by
 obtain⟨A,c,rfl⟩:=hn.shape;have hlm:=hn.len;unfold maxLen at hlm;have eg:∀ args w,(callFunc 158 args).run prog w=.ok (.enter 158 args) w:=enters_of func158 (by kernel_rfl) rfl;have Hn:=Y8 hn;clear hn;go_enter func172,ntmps172;go_wp2_with fail;go_loopw [8] (fun o wr=>∃ k:Nat,k≤ns.length∧o=.int .i64 (k:Int)∧(ns.take k).all Jz=true∧Ext w wr) (fun o _=>ns.length-(intOf o).toNat);case atStart=>exact⟨0,by omega,rfl,by simp,Yk w⟩
 obtain⟨k,hk,rfl,hg,hx⟩:=hrel;have Hg:=Y8 hg;have Hx:=Y8 hx;clear hg hx;by_cases hlt:k<ns.length
 ·have hd:decide ((k:Int)<(ns.length:Int))=true:=by simpa using hlt
  obtain⟨g,o,c',hv,p1,p2,_,b1,hcell⟩:=(Hn.o.ext Hx.o).get hlt;simp only[Yd,Zg0]at hv;obtain⟨rfl,rfl⟩:=hv;obtain⟨n,hnk⟩:∃ n,ns[k]?=some n:=⟨ns[k],by simp[hlt]⟩;obtain⟨x1,x2,x3⟩:=hcell _ _ hnk;have i0:(0:Int)≤(k:Int):=by omega
  have i1:(k:Int)<(ns.length:Int):=by omega
  have Hnk:=Y8 hnk;clear hcell hnk;cases hg:Jz n with
  | true =>
   have Hgn:=Y8 hg;go_wp2_with (go_at_fn 158;refine(Zx8 n _).mono ?_;rintro e w1 ⟨rfl,hy⟩;rw[hg]);go_roundw;case rel=>exact⟨k+1,by omega,by go_num,Znh Hg.o Hnk.o Hgn.o,Hx.o.trans hy⟩
   simp[intOf];omega
  | false =>
   have Hgn:=Y8 hg;go_wp2_with (go_at_fn 158;refine(Zx8 n _).mono ?_;rintro e w1 ⟨rfl,hy⟩;rw[hg]);go_ret;exact⟨k,rfl,by rw[Ziw Hnk.o Hgn.o];simp,Hx.o.trans hy⟩
 have hd:decide ((k:Int)<(ns.length:Int))=false:=by simp;omega
 go_wp2_with fail;go_ret;refine⟨-1,rfl,?_,Hx.o⟩;have:=Hg.o;rw[Zm (by omega)]at this;rw[this];rfl
theorem Iu{S:Nat→Prop}(v:Value)(ns:List Nm)(w:World)(hn:Wo w S v ns) :
 Calls prog 157 #[v,.func (.func 158) #[] #[]] w fun e w'=>e=.returned (.bool (!(ns.all Jz)))∧Ext w w':=by
 have Hn:=Y8 hn;clear hn;go_enter func157,ntmps157;go_wp2_with fail;refine(Zra v ns _ Hn.o).mono ?_;rintro e w1 ⟨z,rfl,hz,hx⟩;have Hx:=Y8 hx;have Hz:=Y8 hz;clear hx hz;go_wp2_with fail;go_ret;exact⟨by rw[← Hz.o];rfl,Hx.o⟩
theorem Ci(cl client op ttl now:Int)(ns:List Nm) :
 Jc cl client op ttl now ns=false∧(client<0∨(0≤client∧cl≤client)∨(0≤client∧client<cl∧op<1)∨(0≤client∧client<cl∧1≤op∧7<op)∨(0≤client∧client<cl∧1≤op∧op≤7∧now<0)∨(0≤client∧client<cl∧1≤op∧op≤7∧0≤now∧1073741824<now)) ∨
 (0≤client∧client<cl∧1≤op∧op≤7∧0≤now∧now≤1073741824 ∧
   ((Jc cl client op ttl now ns=false∧((Xh op=true∧ttl<1)∨(Xh op=true∧1≤ttl∧1073741824<ttl)∨(Xh op=false∧ttl≠0))) ∨
    (((Xh op=true∧1≤ttl∧ttl≤1073741824)∨(Xh op=false∧ttl=0)) ∧
     ((Jc cl client op ttl now ns=false∧(ns.length<1∨(1≤ns.length∧16<ns.length)∨(1≤ns.length∧ns.length≤16∧op=7∧1<ns.length))) ∨
      (1≤ns.length∧ns.length≤16∧(op≠7∨(op=7∧ns.length≤1))∧Jc cl client op ttl now ns=(srt ns&&ns.all Jz)))))):=by
 have hF:∀ q:¬ Fe cl client op ttl now ns,Jc cl client op ttl now ns=false:=fun q=>by simpa[Jc]using q
 by_cases a1:client<0
 ·exact .inl ⟨hF fun p=>by have:=p.c0;omega,.inl a1⟩
 by_cases a2:cl≤client
 ·exact .inl ⟨hF fun p=>by have:=p.c1;omega,.inr (.inl ⟨by omega,a2⟩)⟩
 by_cases a3:op<1
 ·exact .inl ⟨hF fun p=>by have:=p.o0;omega,.inr (.inr (.inl ⟨by omega,by omega,a3⟩))⟩
 by_cases a4:7<op
 ·exact .inl ⟨hF fun p=>by have:=p.o1;omega,.inr (.inr (.inr (.inl ⟨by omega,by omega,by omega,a4⟩)))⟩
 by_cases a5:now<0
 ·exact .inl ⟨hF fun p=>by have:=p.n0;omega,.inr (.inr (.inr (.inr (.inl ⟨by omega,by omega,by omega,by omega,a5⟩))))⟩
 by_cases a6:1073741824<now
 ·exact .inl ⟨hF fun p=>by have:=p.n1;omega,.inr (.inr (.inr (.inr (.inr ⟨by omega,by omega,by omega,by omega,by omega,a6⟩))))⟩
 refine .inr ⟨by omega,by omega,by omega,by omega,by omega,by omega,?_⟩;have htt:((Xh op=true∧ttl<1)∨(Xh op=true∧1≤ttl∧1073741824<ttl)∨(Xh op=false∧ttl≠0))∨((Xh op=true∧1≤ttl∧ttl≤1073741824)∨(Xh op=false∧ttl=0)):=by
  cases Xh op<;>simp<;>omega
 rcases htt with ht|ht
 ·refine .inl ⟨hF fun p=>?_,ht⟩;rcases ht with⟨h,h'⟩ | ⟨h,h'⟩ | ⟨h,h'⟩
  ·have:=p.t1 h;omega
  ·have:=p.t1 h;omega
  exact h' (p.t0 h)
 refine .inr ⟨ht,?_⟩;by_cases b1:ns.length<1
 ·exact .inl ⟨hF fun p=>by have:=p.l0;omega,.inl b1⟩
 by_cases b2:16<ns.length
 ·exact .inl ⟨hF fun p=>by have:=p.l1;omega,.inr (.inl ⟨by omega,b2⟩)⟩
 by_cases b3:op=7∧1<ns.length
 ·exact .inl ⟨hF fun p=>by have:=p.q b3.1;omega,.inr (.inr ⟨by omega,by omega,b3⟩)⟩
 refine .inr ⟨by omega,by omega,by omega,?_⟩;unfold Jc;by_cases h:srt ns=true∧ns.all Jz=true
 ·rw[h.1,h.2];refine Ye ⟨by omega,by omega,by omega,by omega,by omega,by omega,fun h=>?_,fun h=>?_,by omega,by omega,by omega,h.1,h.2⟩
  ·rcases ht with⟨_,h1,h2⟩ | ⟨h1,_⟩
   ·exact⟨h1,h2⟩
   rw[h]at h1;simp at h1
  rcases ht with⟨h1,_⟩ | ⟨_,h1⟩
  ·rw[h]at h1;simp at h1
  exact h1
 rw[Yf fun p=>h ⟨p.srt,p.good⟩];cases hs:srt ns with
 | false=>rfl
 | true=>cases ha:ns.all Jz with
  | false=>rfl
  | true=>exact absurd ⟨hs,ha⟩ h
open Go.RowKit Go.Sort Go.Shelf
theorem Tt{S:Nat→Prop}(b:Nat)(cl client op ttl now:Int)(v:Value)(ns:List Nm)(w:World)(c0:w.cell? ⟨b,0,none⟩=some (.int .i64 cl))(hn:Wo w S v ns) :
 Calls prog 122 #[.pointer (some ⟨b,0,none⟩),.int .i64 client,.int .i64 op,.int .i64 ttl,v,.int .i64 now] w fun e w'=>e=.returned (.bool (Jc cl client op ttl now ns))∧Ext w w':=by
 obtain⟨A,c,rfl⟩:=hn.shape;have hlm:=hn.len;unfold maxLen at hlm;have Hn:=Y8 hn;clear hn;rcases Ci cl client op ttl now ns with⟨hp,h⟩ | ⟨q1,q2,q3,q4,q5,q6,h⟩
 ·rw[hp];clear hp;rcases h with h1 | ⟨h1,h2⟩ | ⟨h1,h2,h3⟩ | ⟨h1,h2,h3,h4⟩ | ⟨h1,h2,h3,h4,h5⟩ | ⟨h1,h2,h3,h4,h5,h6⟩
  ·have d1:decide (client<0)=true:=by simpa using h1
   go_enter func122,ntmps122;go_wp2_with fail;go_ret;exact⟨rfl,xE⟩
  ·have d1:decide (client<0)=false:=by simpa using h1
   have d2:decide (cl≤client)=true:=by simpa using h2
   go_enter func122,ntmps122;go_wp2_with fail;go_ret;exact⟨rfl,xE⟩
  ·have d1:decide (client<0)=false:=by simpa using h1
   have d2:decide (cl≤client)=false:=by simpa using h2
   have d3:decide (op<1)=true:=by simpa using h3
   go_enter func122,ntmps122;go_wp2_with fail;go_ret;exact⟨rfl,xE⟩
  ·have d1:decide (client<0)=false:=by simpa using h1
   have d2:decide (cl≤client)=false:=by simpa using h2
   have d3:decide (op<1)=false:=by simpa using h3
   have d4:decide (7<op)=true:=by simpa using h4
   go_enter func122,ntmps122;go_wp2_with fail;go_ret;exact⟨rfl,xE⟩
  ·have d1:decide (client<0)=false:=by simpa using h1
   have d2:decide (cl≤client)=false:=by simpa using h2
   have d3:decide (op<1)=false:=by simpa using h3
   have d4:decide (7<op)=false:=by simpa using h4
   have d5:decide (now<0)=true:=by simpa using h5
   go_enter func122,ntmps122;go_wp2_with fail;go_ret;exact⟨rfl,xE⟩
  have d1:decide (client<0)=false:=by simpa using h1
  have d2:decide (cl≤client)=false:=by simpa using h2
  have d3:decide (op<1)=false:=by simpa using h3
  have d4:decide (7<op)=false:=by simpa using h4
  have d5:decide (now<0)=false:=by simpa using h5
  have d6:decide (1073741824<now)=true:=by simpa using h6
  go_enter func122,ntmps122;go_wp2_with fail;go_ret;exact⟨rfl,xE⟩
 have d1:decide (client<0)=false:=by simpa using q1
 have d2:decide (cl≤client)=false:=by simpa using q2
 have d3:decide (op<1)=false:=by simpa using q3
 have d4:decide (7<op)=false:=by simpa using q4
 have d5:decide (now<0)=false:=by simpa using q5
 have d6:decide (1073741824<now)=false:=by simpa using q6
 clear q1 q2 q3 q4 q5 q6;rcases h with⟨hp,h⟩ | ⟨h,h'⟩
 ·rw[hp];clear hp;rcases h with⟨ht,h⟩ | ⟨ht,h1,h⟩ | ⟨ht,h⟩
  ·have d7:decide (ttl<1)=true:=by simpa using h
   go_enter func122,ntmps122;go_wp2_with (go_at_call 156;refine(Vb _ _).mono ?_;rintro e w1 ⟨rfl,rfl⟩;rw[ht]);go_ret;exact⟨rfl,xE⟩
  ·have d7:decide (ttl<1)=false:=by simpa using h1
   have d8:decide (1073741824<ttl)=true:=by simpa using h
   go_enter func122,ntmps122;go_wp2_with (go_at_call 156;refine(Vb _ _).mono ?_;rintro e w1 ⟨rfl,rfl⟩;rw[ht]);go_ret;exact⟨rfl,xE⟩
  have d7:(ttl==0)=false:=by simpa using h
  go_enter func122,ntmps122;go_wp2_with (go_at_call 156;refine(Vb _ _).mono ?_;rintro e w1 ⟨rfl,rfl⟩;rw[ht]);go_ret;exact⟨rfl,xE⟩
 have T:∃ b1 b2:Bool,(Xh op=true∧decide (ttl<1)=false∧decide (1073741824<ttl)=false)∨(Xh op=false∧(ttl==0)=true):=by
  refine⟨true,true,?_⟩;rcases h with⟨ht,h1,h2⟩ | ⟨ht,h1⟩
  ·exact .inl ⟨ht,by simpa using h1,by simpa using h2⟩
  exact .inr ⟨ht,by simpa using h1⟩
 clear h;obtain⟨_,_,T⟩:=T;rcases h' with⟨hp,h⟩ | ⟨l1,l2,hq,hp⟩
 ·rw[hp];clear hp;rcases h with h | ⟨h1,h⟩ | ⟨h1,h2,h3,h⟩
  ·have d9:decide ((ns.length:Int)<1)=true:=by simp;omega
   rcases T with⟨ht,t1,t2⟩ | ⟨ht,t1⟩<;>(
    go_enter func122,ntmps122;go_wp2_with (go_at_call 156;refine(Vb _ _).mono ?_;rintro e w1 ⟨rfl,rfl⟩;rw[ht]);go_ret;exact⟨rfl,xE⟩)
  ·have d9:decide ((ns.length:Int)<1)=false:=by simp;omega
   have d10:decide ((16:Int)<(ns.length:Int))=true:=by simp;omega
   rcases T with⟨ht,t1,t2⟩ | ⟨ht,t1⟩<;>(
    go_enter func122,ntmps122;go_wp2_with (go_at_call 156;refine(Vb _ _).mono ?_;rintro e w1 ⟨rfl,rfl⟩;rw[ht]);go_ret;exact⟨rfl,xE⟩)
  have d9:decide ((ns.length:Int)<1)=false:=by simp;omega
  have d10:decide ((16:Int)<(ns.length:Int))=false:=by simp;omega
  have d11:(op==7)=true:=by simpa using h3
  have d12:decide ((1:Int)<(ns.length:Int))=true:=by simp;omega
  clear h1 h2 h3 h;rcases T with⟨ht,t1,t2⟩ | ⟨ht,t1⟩<;>(
   go_enter func122,ntmps122;go_wp2_with (go_at_call 156;refine(Vb _ _).mono ?_;rintro e w1 ⟨rfl,rfl⟩;rw[ht]);go_ret;exact⟨rfl,xE⟩)
 rw[hp];clear hp;have d9:decide ((ns.length:Int)<1)=false:=by simp;omega
 have d10:decide ((16:Int)<(ns.length:Int))=false:=by simp;omega
 have Q:((op==7)=false)∨((op==7)=true∧decide ((1:Int)<(ns.length:Int))=false):=by
  rcases hq with h | ⟨h,h'⟩
  ·exact .inl (by simpa using h)
  exact .inr ⟨by simpa using h,by simp;omega⟩
 clear hq l1 l2;cases hs:srt ns with
 | false =>
  rcases T with⟨ht,t1,t2⟩ | ⟨ht,t1⟩<;>rcases Q with q1 | ⟨q1,q2⟩<;>(
   go_enter func122,ntmps122;go_wp2_with (go_at_call 156;refine(Vb _ _).mono ?_;rintro e w1 ⟨rfl,rfl⟩;rw[ht]);refine(Fi _ ns _ Hn.o).mono ?_;rintro e w1 ⟨rfl,hx⟩;rw[hs];have Hx:=Y8 hx;clear hx;go_wp2_with fail;go_ret;exact⟨rfl,Hx.o⟩)
 | true =>
  rcases T with⟨ht,t1,t2⟩ | ⟨ht,t1⟩<;>rcases Q with q1 | ⟨q1,q2⟩<;>(
   go_enter func122,ntmps122;go_wp2_with (go_at_call 156;refine(Vb _ _).mono ?_;rintro e w1 ⟨rfl,rfl⟩;rw[ht]);refine(Fi _ ns _ Hn.o).mono ?_;rintro e w1 ⟨rfl,hx⟩;rw[hs];have Hx:=Y8 hx;have Hn1:=Y8 (Hn.o.ext hx);clear hx;go_wp2_with fail;refine(Iu _ ns _ Hn1.o).mono ?_;rintro e w2 ⟨rfl,hx2⟩;have Hx2:=Y8 (Hx.o.trans hx2);clear hx2;go_wp2_with fail;go_ret;exact⟨by simp,Hx2.o⟩)
def Nj(p:Kp):List Value:=[.string p.1,.int .i64 p.2.st,.int .i64 p.2.ow,.string p.2.nm,.int .i64 p.2.dl]
def Vz:List Kp→List Value
 | []=>[]
 | p::l=>Nj p++Vz l
theorem Gg:∀ a b:List Kp,Vz (a++b)=Vz a++Vz b
 | [],_=>rfl
 | p::a,b=>by simp[Vz,Gg a b]
theorem Ni:∀ {l:List Kp} {j:Nat} {p:Kp},l[j]?=some p→(Vz l)[j*5]?=some (.string p.1)∧(Vz l)[j*5+1]?=some (.int .i64 p.2.st)∧(Vz l)[j*5+2]?=some (.int .i64 p.2.ow)∧(Vz l)[j*5+3]?=some (.string p.2.nm)∧(Vz l)[j*5+4]?=some (.int .i64 p.2.dl)
 | q::l,0,p,h=>by
  simp only[Zx,Yc]at h;subst h;simp[Vz,Nj]
 | q::l,j+1,p,h=>by
  obtain⟨h1,h2,h3,h4,h5⟩:=Ni (l:=l) (j:=j) (p:=p) (by simpa using h);have e:∀ i,(Vz (q::l))[(j+1)*5+i]?=(Vz l)[j*5+i]?:=fun i=>by
   rw[Vz,Zd (by simp[Nj];omega)];congr 1;simp[Nj];omega
  exact⟨(e 0).trans h1,(e 1).trans h2,(e 2).trans h3,(e 3).trans h4,(e 4).trans h5⟩
def KeptAt(w:World)(S:Nat→Prop)(v:Value)(l:List Kp):Prop:=Rd w S 5 v l.length (Vz l)
theorem KeptAt.get{w:World}{S:Nat→Prop}{v:Value}{l:List Kp}(h:KeptAt w S v l){j:Nat}{p:Kp}(hp:l[j]?=some p) :
 ∃ g o c,v=.slice (some ⟨g,o,none⟩) l.length c∧l.length≤c∧c≤maxLen∧S g∧g<w.heap.size ∧
  w.cell? ⟨g,o+j*5,none⟩=some (.string p.1)∧w.cell? ⟨g,o+j*5+1,none⟩=some (.int .i64 p.2.st)∧w.cell? ⟨g,o+j*5+2,none⟩=some (.int .i64 p.2.ow)∧w.cell? ⟨g,o+j*5+3,none⟩=some (.string p.2.nm)∧w.cell? ⟨g,o+j*5+4,none⟩=some (.int .i64 p.2.dl):=by
 obtain⟨g,o,c,h1,h2,h3,h4,h5,h6⟩:=Rd.at_ h (Zr.1 hp).1;obtain⟨q1,q2,q3,q4,q5⟩:=Ni hp;exact⟨g,o,c,h1,h2,h3,h4,h5,h6 _ _ q1,h6 _ _ q2,h6 _ _ q3,h6 _ _ q4,h6 _ _ q5⟩
theorem KeptAt.shape{w:World}{S:Nat→Prop}{v:Value}{l:List Kp}(h:KeptAt w S v l):∃ A c,v=.slice A l.length c:=by
 obtain⟨_,A,c,h,_⟩:=h;exact⟨A,c,h⟩
theorem Zrk{l:List Kp}{k:Nat}{p:Kp}{key:ByteArray}(h:l[k]?=some p):Xd (l.drop k) key=if p.1=key then p.2 else Xd (l.drop (k+1)) key:=by
 rw[Dz h,Xd]
theorem Qf:(default:Rc)=⟨0,0,⟨#[]⟩,0⟩:=rfl
theorem Zw0{S:Nat→Prop}(v:Value)(l:List Kp)(key:ByteArray)(w:World)(hl:KeptAt w S v l) :
 Calls prog 71 #[v,.string key] w fun e w'=>e=.returned (rcV (Xd l key))∧Ext w w':=by
 obtain⟨A,c,rfl⟩:=hl.shape;have hlm:=hl.len;unfold maxLen at hlm;have Hl:=Y8 hl;clear hl;obtain⟨rb,hrb⟩:=gnX (w.heap.size);have Hrb:=Y8 hrb;go_enter func71,ntmps71;go_wp2_with fail;clear hrb;go_loopw [9] (fun o wr=>∃ k:Nat,k≤l.length∧o=.int .i64 (k:Int)∧Xd l key=Xd (l.drop k) key∧Ext w wr∧wr.cell? ⟨rb,0,none⟩=some (.int .i64 0)∧wr.cell? ⟨rb,1,none⟩=some (.int .i64 0)∧wr.cell? ⟨rb,2,none⟩=some (.string ⟨#[]⟩)∧wr.cell? ⟨rb,3,none⟩=some (.int .i64 0)∧(∀ i,wr.frozen? ⟨rb,i,none⟩=false)∧rb<wr.heap.size) (fun o _=>l.length-(intOf o).toNat);case atStart=>exact⟨0,by omega,rfl,rfl,(Yk w).alloc _,by rw[← Hrb.o];go_simp,by rw[← Hrb.o];go_simp,by rw[← Hrb.o];go_simp,by rw[← Hrb.o];go_simp,fun i=>by rw[← Hrb.o];go_simp,by rw[← Hrb.o];simp⟩
 obtain⟨k,hk,rfl,hg,hx,y0,y1,y2,y3,yf,yb⟩:=hrel;have Hg:=Y8 hg;have Hx:=Y8 hx;clear hg hx;have Hrw:=Y8 (show w.heap.size≤rb from by rw[Hrb.o];exact Ym _);by_cases hlt:k<l.length
 ·have hd:decide ((k:Int)<(l.length:Int))=true:=by simpa using hlt
  obtain⟨p,hpk⟩:∃ p,l[k]?=some p:=⟨l[k],by simp[hlt]⟩;obtain⟨g,o,c',hv,p1,p2,_,b1,x0,x1,x2,x3,x4⟩:=KeptAt.get (Rd.ext Hl.o Hx.o) hpk;simp only[Yd,Zg0]at hv;obtain⟨rfl,rfl⟩:=hv;have i0:(0:Int)≤(k:Int):=by omega
  have i1:(k:Int)<(l.length:Int):=by omega
  have hgd:=Zrk (key:=key) hpk;clear hpk;by_cases he:p.1=key
  ·rw[Zgn he]at hgd;subst he;have Hgd:=Y8 (Hg.o.trans hgd);clear hgd;go_wp2_with fail;refine Ys (v:=rcV (Xd l p.1)) ?_ rfl ⟨rfl,?_⟩
   ·rw[Hgd.o];simp[results,results71,go_sem,rcV, *]
   refine Yj ?_ _;(repeat refine Y0 ?_ (by exact Hrw.o) _);exact Hx.o
  rw[Zgq he]at hgd;have hne:(p.1.toList==key.toList)=false:=by rw[Zg2,Zg2];simp only[Zd5];exact fun e=>he (Nn e)
  have Hgd:=Y8 (Hg.o.trans hgd);clear hgd he;go_wp2_with fail;go_roundw;case rel =>
   refine⟨k+1,by omega,by go_num,Hgd.o,Hx.o.alloc _,?_,?_,?_,?_,fun i=>?_,by simp;omega⟩<;>go_simp
  case measure=>simp[intOf];omega
 have hd:decide ((k:Int)<(l.length:Int))=false:=by simp;omega
 go_wp2_with fail;refine Ys (v:=rcV (Xd l key)) ?_ rfl ⟨rfl,?_⟩
 ·rw[Hg.o,Zf0 (by omega)];simp[results,results71,go_sem,rcV,Xd,Qf, *]
 (repeat refine Y0 ?_ (by exact Hrw.o) _);exact Hx.o
theorem Zme(b m:Nat)(cl cap:Int)(l:List Kp)(key:ByteArray)(w:World)(h:U9 w b m cl cap l)(hk:key.size≤maxLen) :
 Calls prog 86 #[.pointer (some ⟨b,0,none⟩),.string key] w fun e w'=>e=.returned (rcV (Xd l key))∧Ext w w':=by
 have hlk:=(h.map.ext ((Yk w).alloc (.cells #[.int .i64 0,.int .i64 0,.string ⟨#[]⟩,.int .i64 0] 51))).look hk;have c2:=h.c2;have hb:=h.lt;unfold rcV at hlk;go_enter func86,ntmps86;go_wp2_with fail;refine Ys (v:=rcV (Xd l key)) ?_ rfl ⟨rfl,?_⟩
 ·simp[results,results86,go_sem,rcV, *]
 (repeat refine Y0 ?_ (Ym _) _);exact(Yk w).alloc _
section
def KS(l:List Nm):Prop:=∀ n∈l,n.k.size≤16384∧n.u.size≤100000000
theorem KS.nil:KS []:=fun _ h=>by cases h
theorem KS.snoc{l:List Nm}{n:Nm}(h:KS l)(hn:n.k.size≤16384∧n.u.size≤100000000):KS (l++[n]):=fun x hx=>by
 rcases Zj.1 hx with h1|h1
 ·exact h x h1
 rw[Zi.1 h1];exact hn
def Behind(o:Option (List UInt8))(n:Nm):Bool:=match o with|none=>true|some x=>decide (x<kb n.k)
def Ba(L:List Nm)(o:Option (List UInt8)):Nat:=L.countP (fun n=>!Behind o n)
theorem Zz6(L:List Nm):Ba L none=0:=by unfold Ba Behind;simp
theorem behind_next{o:Option (List UInt8)}{m n:Nm}(hm:Behind o m=true)(hn:Behind o n=false):Behind (some (kb m.k)) n=false:=by
 cases o with
 | none=>simp[Behind]at hn
 | some x =>
  simp only[Behind,Zgh,Zg1]at hm hn⊢;intro h;exact hn (Zet hm h)
theorem P3{L:List Nm}{o:Option (List UInt8)}{m n:Nm}(hm:Behind o m=true)(hmin:Behind o n=true→¬ kb n.k<kb m.k)(hne:n.k≠m.k):Behind (some (kb m.k)) n=Behind o n:=by
 cases hb:Behind o n
 ·exact behind_next hm hb
 simp only[Behind,Zgh];rcases Zr7 hne with h|h
 ·exact absurd h (hmin hb)
 exact h
theorem Zz7{L:List Nm}{o:Option (List UInt8)}{k:Nat}{m:Nm}(hk:L[k]?=some m)(hm:Behind o m=true)(hmin:∀ n∈L,Behind o n=true→¬ kb n.k<kb m.k)(huq:∀ i n,L[i]?=some n→n.k=m.k→i=k) :
 Ba L (some (kb m.k))=Ba L o+1:=by
 have hkl:=(Zr.1 hk).1;have e:L=L.take k++m::L.drop (k+1):=by
  have:=Zr.1 hk;obtain⟨h1,h2⟩:=this;rw[← h2];simp
 have a1:(L.take k).countP (fun n=>!Behind (some (kb m.k)) n)=(L.take k).countP (fun n=>!Behind o n):=by
  apply List.countP_congr;intro n hn;obtain⟨i,hi,rfl⟩:=Zdz.1 hn;have hi':i<k:=by rw[Zp]at hi;omega
  have hin:L[i]?=some (L.take k)[i]:=by rw[List.getElem_take];exact Zz _
  rw[P3 (L:=L) hm (hmin _ (Zy hin)) (fun e=>by have:=huq _ _ hin e;omega)]
 have a2:(L.drop (k+1)).countP (fun n=>!Behind (some (kb m.k)) n)=(L.drop (k+1)).countP (fun n=>!Behind o n):=by
  apply List.countP_congr;intro n hn;obtain⟨i,hi,rfl⟩:=Zdz.1 hn;have hin:L[k+1+i]?=some (L.drop (k+1))[i]:=by rw[List.getElem_drop];exact Zz _
  rw[P3 (L:=L) hm (hmin _ (Zy hin)) (fun e=>by have:=huq _ _ hin e;omega)]
 have b1:Behind (some (kb m.k)) m=false:=by simp[Behind,Zfq]
 unfold Ba;rw[e,Zcu,Zcu,a1,Zeb,Zeb,a2,b1,hm];simp;omega
theorem Zz5{L:List Nm}{o:Option (List UInt8)}(h:Ba L o<L.length):∃ (k:Nat) (m:Nm),L[k]?=some m∧Behind o m=true:=by
 refine Zfo fun hn=>?_
 have:Ba L o=L.length:=by
  unfold Ba;rw[List.countP_eq_length];intro n hm;obtain⟨k,hk⟩:=Zgd hm;cases hb:Behind o n
  ·rfl
  exact absurd ⟨k,n,hk,hb⟩ hn
 omega
def Sel(L:List Nm)(o:Option (List UInt8))(i:Nat)(z:Int):Prop :=
 (z = -1∧∀ j n,j<i→L[j]?=some n→Behind o n=false) ∨
 ∃ (k:Nat) (m:Nm),z=(k:Int)∧k<i∧L[k]?=some m∧Behind o m=true∧(∀ j n,j<i→L[j]?=some n→Behind o n=true→¬ kb n.k<kb m.k)∧∀ j n,j<k→L[j]?=some n→n.k≠m.k
section
variable {L:List Nm} {o:Option (List UInt8)} {i:Nat} {z:Int} {n:Nm}
theorem P4{m n:Nm}(h:n.k=m.k):Behind o n=Behind o m:=by cases o<;>simp[Behind,h]
theorem Sel.start(L:List Nm)(o:Option (List UInt8)):Sel L o 0 (-1):=.inl ⟨rfl,fun j n h=>by omega⟩
theorem Sel.skip(h:Sel L o i z)(hn:L[i]?=some n)(hb:Behind o n=false):Sel L o (i+1) z:=by
 rcases h with⟨rfl,h⟩ | ⟨k,m,rfl,hk,hm,hb2,h1,h2⟩
 ·refine .inl ⟨rfl,fun j x hj hx=>?_⟩;rcases(show j<i∨j=i by omega)with h3|rfl
  ·exact h j x h3 hx
  rw[hn]at hx;cases hx;exact hb
 refine .inr ⟨k,m,rfl,by omega,hm,hb2,fun j x hj hx hbx=>?_,h2⟩;rcases(show j<i∨j=i by omega)with h3|rfl
 ·exact h1 j x h3 hx hbx
 rw[hn]at hx;cases hx;rw[hb]at hbx;cases hbx
theorem Sel.first(h:Sel L o i (-1))(hn:L[i]?=some n)(hb:Behind o n=true):Sel L o (i+1) (i:Int):=by
 rcases h with⟨_,h⟩ | ⟨k,m,e,_⟩
 ·refine .inr ⟨i,n,rfl,by omega,hn,hb,fun j x hj hx hbx=>?_,fun j x hj hx e=>?_⟩
  ·rcases(show j<i∨j=i by omega)with h3|rfl
   ·rw[h j x h3 hx]at hbx;cases hbx
   rw[hn]at hx;cases hx;exact Zfq _
  have:=h j x hj hx;rw[P4 e,hb]at this;cases this
 omega
theorem Sel.less{k:Nat}{m:Nm}(h:Sel L o i (k:Int))(hm:L[k]?=some m)(hn:L[i]?=some n)(hb:Behind o n=true)(hl:kb n.k<kb m.k):Sel L o (i+1) (i:Int):=by
 rcases h with⟨e,_⟩ | ⟨k',m',e,hk,hm',hb2,h1,h2⟩
 ·omega
 obtain rfl:k'=k:=by omega
 rw[hm]at hm';cases hm'
 refine .inr ⟨i,n,rfl,by omega,hn,hb,fun j x hj hx hbx hlt=>?_,fun j x hj hx e=>?_⟩
 ·rcases(show j<i∨j=i by omega)with h3|rfl
  ·exact h1 j x h3 hx hbx (Zet hlt hl)
  rw[hn]at hx;cases hx;exact Zfq _ hlt
 exact h1 j x hj hx (by rw[P4 e];exact hb) (by rw[e];exact hl)
theorem Sel.keep{k:Nat}{m:Nm}(h:Sel L o i (k:Int))(hm:L[k]?=some m)(hn:L[i]?=some n)(hl:¬ kb n.k<kb m.k):Sel L o (i+1) (k:Int):=by
 rcases h with⟨e,_⟩ | ⟨k',m',e,hk,hm',hb2,h1,h2⟩
 ·omega
 obtain rfl:k'=k:=by omega
 rw[hm]at hm';cases hm'
 refine .inr ⟨k',m,rfl,by omega,hm,hb2,fun j x hj hx hbx=>?_,h2⟩;rcases(show j<i∨j=i by omega)with h3|rfl
 ·exact h1 j x h3 hx hbx
 rw[hn]at hx;cases hx;exact hl
theorem Sel.at_(h:Sel L o i z):z = -1∨∃ (k:Nat) (m:Nm),z=(k:Int)∧k<i∧L[k]?=some m:=by
 rcases h with⟨e,_⟩ | ⟨k,m,e,hk,hm,_⟩
 ·exact .inl e
 exact .inr ⟨k,m,e,hk,hm⟩
theorem Sel.found(h:Sel L o L.length z)(hc:Ba L o<L.length):∃ (k:Nat) (m:Nm),z=(k:Int)∧k<L.length∧L[k]?=some m∧Behind o m=true∧(∀ x∈L,Behind o x=true→¬ kb x.k<kb m.k)∧∀ j x,j<k→L[j]?=some x→x.k≠m.k:=by
 rcases h with⟨_,h⟩ | ⟨k,m,e,hk,hm,hb2,h1,h2⟩
 ·obtain⟨k,m,hm,hb⟩:=Zz5 hc;rw[h k m (Zr.1 hm).1 hm]at hb;cases hb
 refine⟨k,m,e,hk,hm,hb2,fun x hx hbx=>?_,h2⟩;obtain⟨j,hj⟩:=Zgd hx;exact h1 j x (Zr.1 hj).1 hj hbx
def Lm(out:List Nm):Option (List UInt8):=out.getLast?.map fun n=>kb n.k
def KG(l:List Nm):Prop:=KS l∧l.all Jz=true
theorem KG.nil:KG []:=⟨KS.nil,rfl⟩
theorem KG.snoc{l:List Nm}{n:Nm}(h:KG l)(hn:n.k.size≤16384∧n.u.size≤100000000)(hg:Jz n=true):KG (l++[n]):=⟨h.1.snoc hn,by rw[List.all_append,h.2];simp[hg]⟩
theorem Zw6:∀ {l:List Nm} {m:Nm},srt l=true→Behind (Lm l) m=true→srt (l++[m])=true
 | [],_,_,_=>rfl
 | [x],m,_,h=>by
  have:kb x.k<kb m.k:=by simpa[Behind,Lm]using h
  show(decide (kb x.k<kb m.k)&&srt [m])=true;rw[Ye this];rfl
 | x::y::r,m,hs,h=>by
  have e:Lm (x::y::r)=Lm (y::r):=by simp[Lm]
  rw[srt,Zgc]at hs;have ih:=Zw6 (l:=y::r) hs.2 (e▸h);show(decide (x.k.data.toList<y.k.data.toList)&&srt ((y::r)++[m]))=true;rw[ih,hs.1];rfl
theorem Zuw(out:List Nm)(m:Nm):Lm (out++[m])=some (kb m.k):=by simp[Lm]
theorem Zmm{out:List Nm}{y:Nm}(h:out[out.length-1]?=some y):Lm out=some (kb y.k):=by
 unfold Lm;rw[Zdy,h];rfl
theorem I6{a b:ByteArray}(h:kb a<kb b):Op.bytesLess a.toList b.toList=true:=by
 rw[Go.Proofs.bytesLess_eq,Zg2,Zg2];unfold kb at h;simpa using h
theorem Rs{a b:ByteArray}(h:¬ kb a<kb b):Op.bytesLess a.toList b.toList=false:=by
 rw[Go.Proofs.bytesLess_eq,Zg2,Zg2];unfold kb at h;simpa using h
theorem Zjc{x s:ByteArray}(h:kb s<kb x):Op.bytesLess x.toList s.toList=false∧(x.toList==s.toList)=false:=by
 unfold kb at h;exact Tz h
theorem Zmy{x s:ByteArray}(h:¬ kb s<kb x):(!Op.bytesLess x.toList s.toList&&!(x.toList==s.toList))=false:=by
 unfold kb at h;have:=Lb h;cases h1:Op.bytesLess x.toList s.toList<;>cases h2:(x.toList==s.toList)<;>simp_all
end
end
