/- Lemmas of this claim: Record, Record2, Names, Judge, MkL. Conditions: as named. -/
import Derived.Laws.BitsAllLaws
import Derived.Laws.DeepNot64
import Derived.Laws.IdiomCopy
import Derived.Sort.Walk0
import Derived.WalkSmall
import Derived.Test.YtnbclgbicnpmnaaGreatA02
namespace Go.Proofs.YtnbclgbicnpmnaaGreat
open Go.RowKit Go.Sort Tryz
set_option maxHeartbeats 0
set_option maxRecDepth 100000
set_option linter.all false
def Xn(st op:Int):Int:=if op=1 then(if st=0 then 1 else 0)else if op=4∨op=5∨op=6 then(if st=0 then 0 else -1)else 0
theorem Ff(op:Int):op=1∨op=4∨op=5∨op=6∨(op≠1∧op≠4∧op≠5∧op≠6):=by omega
theorem Zo0(op:Int):op=1∨op=2∨op=3∨op=4∨op=5∨op=6∨op=7∨(op<1∨7<op):=by omega
theorem Ty(st ow dl op:Int)(nm:ByteArray)(w:World) :
 Calls prog 161 #[.agg #[.int .i64 st,.int .i64 ow,.string nm,.int .i64 dl],.int .i64 op] w fun e w'=>e=.returned (.int .i64 (Xn st op))∧Ext w w':=by
 by_cases hs:st=0
 ·subst hs;rcases Ff op with rfl|rfl|rfl|rfl|h
  ·have H:=Y4 (show Xn 0 1=1 by simp[Xn]);go_enter func161,ntmps161;go_wp2;go_ret;exact⟨by rw[H.o];rfl,xE⟩
  ·have H:=Y4 (show Xn 0 4=0 by simp[Xn]);go_enter func161,ntmps161;go_wp2;go_ret;exact⟨by rw[H.o];rfl,xE⟩
  ·have H:=Y4 (show Xn 0 5=0 by simp[Xn]);go_enter func161,ntmps161;go_wp2;go_ret;exact⟨by rw[H.o];rfl,xE⟩
  ·have H:=Y4 (show Xn 0 6=0 by simp[Xn]);go_enter func161,ntmps161;go_wp2;go_ret;exact⟨by rw[H.o];rfl,xE⟩
  have H:=Y4 (show Xn 0 op=0 by simp[Xn,h.1,h.2.1,h.2.2.1,h.2.2.2]);obtain⟨h1,h2,h3,h4⟩:=h;go_enter func161,ntmps161;go_wp2;go_ret;exact⟨by rw[H.o];rfl,xE⟩
 rcases Ff op with rfl|rfl|rfl|rfl|h
 ·have H:=Y4 (show Xn st 1=0 by simp[Xn,hs]);go_enter func161,ntmps161;go_wp2;go_ret;exact⟨by rw[H.o];rfl,xE⟩
 ·have H:=Y4 (show Xn st 4 = -1 by simp[Xn,hs]);go_enter func161,ntmps161;go_wp2;go_ret;exact⟨by rw[H.o];rfl,xE⟩
 ·have H:=Y4 (show Xn st 5 = -1 by simp[Xn,hs]);go_enter func161,ntmps161;go_wp2;go_ret;exact⟨by rw[H.o];rfl,xE⟩
 ·have H:=Y4 (show Xn st 6 = -1 by simp[Xn,hs]);go_enter func161,ntmps161;go_wp2;go_ret;exact⟨by rw[H.o];rfl,xE⟩
 have H:=Y4 (show Xn st op=0 by simp[Xn,h.1,h.2.1,h.2.2.1,h.2.2.2]);obtain⟨h1,h2,h3,h4⟩:=h;go_enter func161,ntmps161;go_wp2;go_ret;exact⟨by rw[H.o];rfl,xE⟩
theorem Ps(st ow dl op:Int)(nm:ByteArray)(w:World) :
 Calls prog 103 #[.agg #[.int .i64 st,.int .i64 ow,.string nm,.int .i64 dl],.int .i64 op] w fun e w'=>e=.returned (.int .i64 (Xn st op))∧Ext w w':=by
 by_cases hs:st=0
 ·subst hs;rcases Ff op with rfl|rfl|rfl|rfl|h
  ·have H:=Y4 (show Xn 0 1=1 by simp[Xn]);go_enter func103,ntmps103;go_wp2;go_ret;exact⟨by rw[H.o];rfl,xE⟩
  ·have H:=Y4 (show Xn 0 4=0 by simp[Xn]);go_enter func103,ntmps103;go_wp2;go_ret;exact⟨by rw[H.o];rfl,xE⟩
  ·have H:=Y4 (show Xn 0 5=0 by simp[Xn]);go_enter func103,ntmps103;go_wp2;go_ret;exact⟨by rw[H.o];rfl,xE⟩
  ·have H:=Y4 (show Xn 0 6=0 by simp[Xn]);go_enter func103,ntmps103;go_wp2;go_ret;exact⟨by rw[H.o];rfl,xE⟩
  have H:=Y4 (show Xn 0 op=0 by simp[Xn,h.1,h.2.1,h.2.2.1,h.2.2.2]);obtain⟨h1,h2,h3,h4⟩:=h;go_enter func103,ntmps103;go_wp2;go_ret;exact⟨by rw[H.o];rfl,xE⟩
 rcases Ff op with rfl|rfl|rfl|rfl|h
 ·have H:=Y4 (show Xn st 1=0 by simp[Xn,hs]);go_enter func103,ntmps103;go_wp2;go_ret;exact⟨by rw[H.o];rfl,xE⟩
 ·have H:=Y4 (show Xn st 4 = -1 by simp[Xn,hs]);go_enter func103,ntmps103;go_wp2;go_ret;exact⟨by rw[H.o];rfl,xE⟩
 ·have H:=Y4 (show Xn st 5 = -1 by simp[Xn,hs]);go_enter func103,ntmps103;go_wp2;go_ret;exact⟨by rw[H.o];rfl,xE⟩
 ·have H:=Y4 (show Xn st 6 = -1 by simp[Xn,hs]);go_enter func103,ntmps103;go_wp2;go_ret;exact⟨by rw[H.o];rfl,xE⟩
 have H:=Y4 (show Xn st op=0 by simp[Xn,h.1,h.2.1,h.2.2.1,h.2.2.2]);obtain⟨h1,h2,h3,h4⟩:=h;go_enter func103,ntmps103;go_wp2;go_ret;exact⟨by rw[H.o];rfl,xE⟩
def J7(st op:Int):Int:=if op=1 then 1 else if op=2 then 2 else if op=4∨op=5∨op=6 then 0 else st
def Kq(ow op client:Int):Int:=if op=1 then client else if op=4∨op=5∨op=6 then 0 else ow
def Kr(nm:ByteArray)(op:Int)(name:ByteArray):ByteArray:=if op=1 then name else if op=4∨op=5∨op=6 then⟨#[]⟩else nm
def J5(dl op deadline:Int):Int:=if op=1 then deadline else if op=2 then 0 else if op=3 then deadline else if op=4∨op=5∨op=6 then 0 else dl
theorem Sr(st ow dl op client deadline:Int)(nm name:ByteArray)(w:World) :
 Calls prog 162 #[.agg #[.int .i64 st,.int .i64 ow,.string nm,.int .i64 dl],.int .i64 op,.int .i64 client,.string name,.int .i64 deadline] w fun e w' =>
  e=.returned (.agg #[.int .i64 (J7 st op),.int .i64 (Kq ow op client),.string (Kr nm op name),.int .i64 (J5 dl op deadline)])∧Ext w w':=by
 rcases Zo0 op with rfl|rfl|rfl|rfl|rfl|rfl|rfl|h
 ·go_enter func162,ntmps162;go_wp2;exact Ys (v:=.agg #[.int .i64 (J7 st 1),.int .i64 (Kq ow 1 client),.string (Kr nm 1 name),.int .i64 (J5 dl 1 deadline)]) (by simp[results,results162,go_sem,J7,Kq,Kr,J5]) rfl ⟨rfl,xE⟩
 ·go_enter func162,ntmps162;go_wp2;exact Ys (v:=.agg #[.int .i64 (J7 st 2),.int .i64 (Kq ow 2 client),.string (Kr nm 2 name),.int .i64 (J5 dl 2 deadline)]) (by simp[results,results162,go_sem,J7,Kq,Kr,J5]) rfl ⟨rfl,xE⟩
 ·go_enter func162,ntmps162;go_wp2;exact Ys (v:=.agg #[.int .i64 (J7 st 3),.int .i64 (Kq ow 3 client),.string (Kr nm 3 name),.int .i64 (J5 dl 3 deadline)]) (by simp[results,results162,go_sem,J7,Kq,Kr,J5]) rfl ⟨rfl,xE⟩
 ·go_enter func162,ntmps162;go_wp2;exact Ys (v:=.agg #[.int .i64 (J7 st 4),.int .i64 (Kq ow 4 client),.string (Kr nm 4 name),.int .i64 (J5 dl 4 deadline)]) (by simp[results,results162,go_sem,J7,Kq,Kr,J5]) rfl ⟨rfl,xE⟩
 ·go_enter func162,ntmps162;go_wp2;exact Ys (v:=.agg #[.int .i64 (J7 st 5),.int .i64 (Kq ow 5 client),.string (Kr nm 5 name),.int .i64 (J5 dl 5 deadline)]) (by simp[results,results162,go_sem,J7,Kq,Kr,J5]) rfl ⟨rfl,xE⟩
 ·go_enter func162,ntmps162;go_wp2;exact Ys (v:=.agg #[.int .i64 (J7 st 6),.int .i64 (Kq ow 6 client),.string (Kr nm 6 name),.int .i64 (J5 dl 6 deadline)]) (by simp[results,results162,go_sem,J7,Kq,Kr,J5]) rfl ⟨rfl,xE⟩
 ·go_enter func162,ntmps162;go_wp2;exact Ys (v:=.agg #[.int .i64 (J7 st 7),.int .i64 (Kq ow 7 client),.string (Kr nm 7 name),.int .i64 (J5 dl 7 deadline)]) (by simp[results,results162,go_sem,J7,Kq,Kr,J5]) rfl ⟨rfl,xE⟩
 have h1:¬ op=1:=by omega
 have h2:¬ op=2:=by omega
 have h3:¬ op=3:=by omega
 have h4:¬ op=4:=by omega
 have h5:¬ op=5:=by omega
 have h6:¬ op=6:=by omega
 go_enter func162,ntmps162;go_wp2;exact Ys (v:=.agg #[.int .i64 (J7 st op),.int .i64 (Kq ow op client),.string (Kr nm op name),.int .i64 (J5 dl op deadline)]) (by simp[results,results162,go_sem,J7,Kq,Kr,J5,h1,h2,h3,h4,h5,h6]) rfl ⟨rfl,xE⟩
theorem De(st ow dl op client deadline:Int)(nm name:ByteArray)(w:World) :
 Calls prog 74 #[.agg #[.int .i64 st,.int .i64 ow,.string nm,.int .i64 dl],.int .i64 op,.int .i64 client,.string name,.int .i64 deadline] w fun e w' =>
  e=.returned (.agg #[.int .i64 (J7 st op),.int .i64 (Kq ow op client),.string (Kr nm op name),.int .i64 (J5 dl op deadline)])∧Ext w w':=by
 rcases Zo0 op with rfl|rfl|rfl|rfl|rfl|rfl|rfl|h
 ·go_enter func74,ntmps74;go_wp2;exact Ys (v:=.agg #[.int .i64 (J7 st 1),.int .i64 (Kq ow 1 client),.string (Kr nm 1 name),.int .i64 (J5 dl 1 deadline)]) (by simp[results,results74,go_sem,J7,Kq,Kr,J5]) rfl ⟨rfl,xE⟩
 ·go_enter func74,ntmps74;go_wp2;exact Ys (v:=.agg #[.int .i64 (J7 st 2),.int .i64 (Kq ow 2 client),.string (Kr nm 2 name),.int .i64 (J5 dl 2 deadline)]) (by simp[results,results74,go_sem,J7,Kq,Kr,J5]) rfl ⟨rfl,xE⟩
 ·go_enter func74,ntmps74;go_wp2;exact Ys (v:=.agg #[.int .i64 (J7 st 3),.int .i64 (Kq ow 3 client),.string (Kr nm 3 name),.int .i64 (J5 dl 3 deadline)]) (by simp[results,results74,go_sem,J7,Kq,Kr,J5]) rfl ⟨rfl,xE⟩
 ·go_enter func74,ntmps74;go_wp2;exact Ys (v:=.agg #[.int .i64 (J7 st 4),.int .i64 (Kq ow 4 client),.string (Kr nm 4 name),.int .i64 (J5 dl 4 deadline)]) (by simp[results,results74,go_sem,J7,Kq,Kr,J5]) rfl ⟨rfl,xE⟩
 ·go_enter func74,ntmps74;go_wp2;exact Ys (v:=.agg #[.int .i64 (J7 st 5),.int .i64 (Kq ow 5 client),.string (Kr nm 5 name),.int .i64 (J5 dl 5 deadline)]) (by simp[results,results74,go_sem,J7,Kq,Kr,J5]) rfl ⟨rfl,xE⟩
 ·go_enter func74,ntmps74;go_wp2;exact Ys (v:=.agg #[.int .i64 (J7 st 6),.int .i64 (Kq ow 6 client),.string (Kr nm 6 name),.int .i64 (J5 dl 6 deadline)]) (by simp[results,results74,go_sem,J7,Kq,Kr,J5]) rfl ⟨rfl,xE⟩
 ·go_enter func74,ntmps74;go_wp2;exact Ys (v:=.agg #[.int .i64 (J7 st 7),.int .i64 (Kq ow 7 client),.string (Kr nm 7 name),.int .i64 (J5 dl 7 deadline)]) (by simp[results,results74,go_sem,J7,Kq,Kr,J5]) rfl ⟨rfl,xE⟩
 have h1:¬ op=1:=by omega
 have h2:¬ op=2:=by omega
 have h3:¬ op=3:=by omega
 have h4:¬ op=4:=by omega
 have h5:¬ op=5:=by omega
 have h6:¬ op=6:=by omega
 go_enter func74,ntmps74;go_wp2;exact Ys (v:=.agg #[.int .i64 (J7 st op),.int .i64 (Kq ow op client),.string (Kr nm op name),.int .i64 (J5 dl op deadline)]) (by simp[results,results74,go_sem,J7,Kq,Kr,J5,h1,h2,h3,h4,h5,h6]) rfl ⟨rfl,xE⟩
def Ju(st ow dl state client now:Int):Int :=
 if Uw st dl now=false then 23 else if ow=client then(if st=state then 0 else 26)else 25
def V8(st ow dl op client now:Int):Int :=
 if op=1 then(if Uw st dl now=true then 24 else 0)
 else if op=2∨op=3∨op=4 then Ju st ow dl 1 client now
 else if op=5 then Ju st ow dl 2 client now
 else if op=6 then(if st=0 then 23 else if Uw st dl now=true then 26 else 0)
 else if op=7 then 0 else 1
theorem El(st ow dl state client now:Int)(nm:ByteArray)(w:World) :
 Calls prog 174 #[.agg #[.int .i64 st,.int .i64 ow,.string nm,.int .i64 dl],.int .i64 state,.int .i64 client,.int .i64 now] w fun e w'=>e=.returned (.int .i64 (Ju st ow dl state client now))∧Ext w w':=by
 cases hl:Uw st dl now
 ·have H:=Y4 (show Ju st ow dl state client now=23 by simp[Ju,hl]);go_enter func174,ntmps174;go_wp2_with (go_at_call 163;refine(Qk _ _ _ _ _ _).mono ?_;rintro e w1 ⟨rfl,hy⟩;(first|(have hx:=hx.trans hy)|(have hx:=hy));have hc:=fun i=>hx.cell (p:=⟨w.heap.size,i,none⟩) (by first|(simp;done)|(simp;omega));have hz:=fun i=>hx.frozen (p:=⟨w.heap.size,i,none⟩) (by first|(simp;done)|(simp;omega));have hs:w.heap.size+1≤w1.heap.size:=by(have hs1:=hx.size;simp at hs1;omega));go_ret;exact⟨by rw[H.o];rfl,xE⟩
 by_cases ho:ow=client
 ·subst ho;by_cases hs:st=state
  ·subst hs;have H:=Y4 (show Ju st ow dl st ow now=0 by simp[Ju,hl]);go_enter func174,ntmps174;go_wp2_with (go_at_call 163;refine(Qk _ _ _ _ _ _).mono ?_;rintro e w1 ⟨rfl,hy⟩;(first|(have hx:=hx.trans hy)|(have hx:=hy));have hc:=fun i=>hx.cell (p:=⟨w.heap.size,i,none⟩) (by first|(simp;done)|(simp;omega));have hz:=fun i=>hx.frozen (p:=⟨w.heap.size,i,none⟩) (by first|(simp;done)|(simp;omega));have hs:w.heap.size+1≤w1.heap.size:=by(have hs1:=hx.size;simp at hs1;omega));go_ret;exact⟨by rw[H.o];rfl,xE⟩
  have H:=Y4 (show Ju st ow dl state ow now=26 by simp[Ju,hl,hs]);go_enter func174,ntmps174;go_wp2_with (go_at_call 163;refine(Qk _ _ _ _ _ _).mono ?_;rintro e w1 ⟨rfl,hy⟩;(first|(have hx:=hx.trans hy)|(have hx:=hy));have hc:=fun i=>hx.cell (p:=⟨w.heap.size,i,none⟩) (by first|(simp;done)|(simp;omega));have hz:=fun i=>hx.frozen (p:=⟨w.heap.size,i,none⟩) (by first|(simp;done)|(simp;omega));have hs:w.heap.size+1≤w1.heap.size:=by(have hs1:=hx.size;simp at hs1;omega));go_ret;exact⟨by rw[H.o];rfl,xE⟩
 have H:=Y4 (show Ju st ow dl state client now=25 by simp[Ju,hl,ho]);go_enter func174,ntmps174;go_wp2_with (go_at_call 163;refine(Qk _ _ _ _ _ _).mono ?_;rintro e w1 ⟨rfl,hy⟩;(first|(have hx:=hx.trans hy)|(have hx:=hy));have hc:=fun i=>hx.cell (p:=⟨w.heap.size,i,none⟩) (by first|(simp;done)|(simp;omega));have hz:=fun i=>hx.frozen (p:=⟨w.heap.size,i,none⟩) (by first|(simp;done)|(simp;omega));have hs:w.heap.size+1≤w1.heap.size:=by(have hs1:=hx.size;simp at hs1;omega));go_ret;exact⟨by rw[H.o];rfl,xE⟩
theorem Zsv(op:Int):op=1∨op=2∨op=3∨op=4∨op=5∨op=6∨op=7∨(op<1∨7<op):=by omega
theorem Zxn(st ow dl op client now:Int)(nm:ByteArray)(w:World) :
 Calls prog 160 #[.agg #[.int .i64 st,.int .i64 ow,.string nm,.int .i64 dl],.int .i64 op,.int .i64 client,.int .i64 now] w fun e w'=>e=.returned (.int .i64 (V8 st ow dl op client now))∧Ext w w':=by
 rcases Zsv op with rfl|rfl|rfl|rfl|rfl|rfl|rfl|h
 ·cases hl:Uw st dl now
  ·have H:=Y4 (show V8 st ow dl 1 client now=0 by simp[V8,hl]);go_enter func160,ntmps160;go_wp2_with (go_at_call 163;refine(Qk _ _ _ _ _ _).mono ?_;rintro e w1 ⟨rfl,hy⟩;(first|(have hx:=hx.trans hy)|(have hx:=hy));have hc:=fun i=>hx.cell (p:=⟨w.heap.size,i,none⟩) (by first|(simp;done)|(simp;omega));have hz:=fun i=>hx.frozen (p:=⟨w.heap.size,i,none⟩) (by first|(simp;done)|(simp;omega));have hs:w.heap.size+1≤w1.heap.size:=by(have hs1:=hx.size;simp at hs1;omega));go_ret;exact⟨by rw[H.o];rfl,xE⟩
  have H:=Y4 (show V8 st ow dl 1 client now=24 by simp[V8,hl]);go_enter func160,ntmps160;go_wp2_with (go_at_call 163;refine(Qk _ _ _ _ _ _).mono ?_;rintro e w1 ⟨rfl,hy⟩;(first|(have hx:=hx.trans hy)|(have hx:=hy));have hc:=fun i=>hx.cell (p:=⟨w.heap.size,i,none⟩) (by first|(simp;done)|(simp;omega));have hz:=fun i=>hx.frozen (p:=⟨w.heap.size,i,none⟩) (by first|(simp;done)|(simp;omega));have hs:w.heap.size+1≤w1.heap.size:=by(have hs1:=hx.size;simp at hs1;omega));go_ret;exact⟨by rw[H.o];rfl,xE⟩
 ·have H:=Y4 (show V8 st ow dl 2 client now=Ju st ow dl 1 client now by simp[V8]);go_enter func160,ntmps160;go_wp2_with (go_at_call 174;refine(El _ _ _ _ _ _ _ _).mono ?_;rintro e w1 ⟨rfl,hy⟩;(first|(have hx:=hx.trans hy)|(have hx:=hy));have hc:=fun i=>hx.cell (p:=⟨w.heap.size,i,none⟩) (by first|(simp;done)|(simp;omega));have hz:=fun i=>hx.frozen (p:=⟨w.heap.size,i,none⟩) (by first|(simp;done)|(simp;omega));have hs:w.heap.size+1≤w1.heap.size:=by(have hs1:=hx.size;simp at hs1;omega));go_ret;exact⟨by rw[H.o];rfl,xE⟩
 ·have H:=Y4 (show V8 st ow dl 3 client now=Ju st ow dl 1 client now by simp[V8]);go_enter func160,ntmps160;go_wp2_with (go_at_call 174;refine(El _ _ _ _ _ _ _ _).mono ?_;rintro e w1 ⟨rfl,hy⟩;(first|(have hx:=hx.trans hy)|(have hx:=hy));have hc:=fun i=>hx.cell (p:=⟨w.heap.size,i,none⟩) (by first|(simp;done)|(simp;omega));have hz:=fun i=>hx.frozen (p:=⟨w.heap.size,i,none⟩) (by first|(simp;done)|(simp;omega));have hs:w.heap.size+1≤w1.heap.size:=by(have hs1:=hx.size;simp at hs1;omega));go_ret;exact⟨by rw[H.o];rfl,xE⟩
 ·have H:=Y4 (show V8 st ow dl 4 client now=Ju st ow dl 1 client now by simp[V8]);go_enter func160,ntmps160;go_wp2_with (go_at_call 174;refine(El _ _ _ _ _ _ _ _).mono ?_;rintro e w1 ⟨rfl,hy⟩;(first|(have hx:=hx.trans hy)|(have hx:=hy));have hc:=fun i=>hx.cell (p:=⟨w.heap.size,i,none⟩) (by first|(simp;done)|(simp;omega));have hz:=fun i=>hx.frozen (p:=⟨w.heap.size,i,none⟩) (by first|(simp;done)|(simp;omega));have hs:w.heap.size+1≤w1.heap.size:=by(have hs1:=hx.size;simp at hs1;omega));go_ret;exact⟨by rw[H.o];rfl,xE⟩
 ·have H:=Y4 (show V8 st ow dl 5 client now=Ju st ow dl 2 client now by simp[V8]);go_enter func160,ntmps160;go_wp2_with (go_at_call 174;refine(El _ _ _ _ _ _ _ _).mono ?_;rintro e w1 ⟨rfl,hy⟩;(first|(have hx:=hx.trans hy)|(have hx:=hy));have hc:=fun i=>hx.cell (p:=⟨w.heap.size,i,none⟩) (by first|(simp;done)|(simp;omega));have hz:=fun i=>hx.frozen (p:=⟨w.heap.size,i,none⟩) (by first|(simp;done)|(simp;omega));have hs:w.heap.size+1≤w1.heap.size:=by(have hs1:=hx.size;simp at hs1;omega));go_ret;exact⟨by rw[H.o];rfl,xE⟩
 ·by_cases hs:st=0
  ·subst hs;have H:=Y4 (show V8 0 ow dl 6 client now=23 by simp[V8]);go_enter func160,ntmps160;go_wp2_with (go_at_call 163;refine(Qk _ _ _ _ _ _).mono ?_;rintro e w1 ⟨rfl,hy⟩;(first|(have hx:=hx.trans hy)|(have hx:=hy));have hc:=fun i=>hx.cell (p:=⟨w.heap.size,i,none⟩) (by first|(simp;done)|(simp;omega));have hz:=fun i=>hx.frozen (p:=⟨w.heap.size,i,none⟩) (by first|(simp;done)|(simp;omega));have hs:w.heap.size+1≤w1.heap.size:=by(have hs1:=hx.size;simp at hs1;omega));go_ret;exact⟨by rw[H.o];rfl,xE⟩
  cases hl:Uw st dl now
  ·have H:=Y4 (show V8 st ow dl 6 client now=0 by simp[V8,hl,hs]);go_enter func160,ntmps160;go_wp2_with (go_at_call 163;refine(Qk _ _ _ _ _ _).mono ?_;rintro e w1 ⟨rfl,hy⟩;(first|(have hx:=hx.trans hy)|(have hx:=hy));have hc:=fun i=>hx.cell (p:=⟨w.heap.size,i,none⟩) (by first|(simp;done)|(simp;omega));have hz:=fun i=>hx.frozen (p:=⟨w.heap.size,i,none⟩) (by first|(simp;done)|(simp;omega));have hs:w.heap.size+1≤w1.heap.size:=by(have hs1:=hx.size;simp at hs1;omega));go_ret;exact⟨by rw[H.o];rfl,xE⟩
  have H:=Y4 (show V8 st ow dl 6 client now=26 by simp[V8,hl,hs]);go_enter func160,ntmps160;go_wp2_with (go_at_call 163;refine(Qk _ _ _ _ _ _).mono ?_;rintro e w1 ⟨rfl,hy⟩;(first|(have hx:=hx.trans hy)|(have hx:=hy));have hc:=fun i=>hx.cell (p:=⟨w.heap.size,i,none⟩) (by first|(simp;done)|(simp;omega));have hz:=fun i=>hx.frozen (p:=⟨w.heap.size,i,none⟩) (by first|(simp;done)|(simp;omega));have hs:w.heap.size+1≤w1.heap.size:=by(have hs1:=hx.size;simp at hs1;omega));go_ret;exact⟨by rw[H.o];rfl,xE⟩
 ·have H:=Y4 (show V8 st ow dl 7 client now=0 by simp[V8]);go_enter func160,ntmps160;go_wp2_with (go_at_call 163;refine(Qk _ _ _ _ _ _).mono ?_;rintro e w1 ⟨rfl,hy⟩;(first|(have hx:=hx.trans hy)|(have hx:=hy));have hc:=fun i=>hx.cell (p:=⟨w.heap.size,i,none⟩) (by first|(simp;done)|(simp;omega));have hz:=fun i=>hx.frozen (p:=⟨w.heap.size,i,none⟩) (by first|(simp;done)|(simp;omega));have hs:w.heap.size+1≤w1.heap.size:=by(have hs1:=hx.size;simp at hs1;omega));go_ret;exact⟨by rw[H.o];rfl,xE⟩
 have h1:¬ op=1:=by omega
 have h2:¬ op=2:=by omega
 have h3:¬ op=3:=by omega
 have h4:¬ op=4:=by omega
 have h5:¬ op=5:=by omega
 have h6:¬ op=6:=by omega
 have h7:¬ op=7:=by omega
 have H:=Y4 (show V8 st ow dl op client now=1 by simp[V8,h1,h2,h3,h4,h5,h6,h7]);go_enter func160,ntmps160;go_wp2_with (go_at_call 163;refine(Qk _ _ _ _ _ _).mono ?_;rintro e w1 ⟨rfl,hy⟩;(first|(have hx:=hx.trans hy)|(have hx:=hy));have hc:=fun i=>hx.cell (p:=⟨w.heap.size,i,none⟩) (by first|(simp;done)|(simp;omega));have hz:=fun i=>hx.frozen (p:=⟨w.heap.size,i,none⟩) (by first|(simp;done)|(simp;omega));have hs:w.heap.size+1≤w1.heap.size:=by(have hs1:=hx.size;simp at hs1;omega));go_ret;exact⟨by rw[H.o];rfl,xE⟩
theorem Zms{st dl now:Int}(h:Uw st dl now=true):st=2∨st=1:=by
 simp[Uw]at h;omega
theorem Zs4(st ow dl op client now:Int)(nm:ByteArray)(w:World) :
 Calls prog 102 #[.agg #[.int .i64 st,.int .i64 ow,.string nm,.int .i64 dl],.int .i64 op,.int .i64 client,.int .i64 now] w fun e w'=>e=.returned (.int .i64 (V8 st ow dl op client now))∧Ext w w':=by
 rcases Zsv op with rfl|rfl|rfl|rfl|rfl|rfl|rfl|h
 case' inr.inr.inr.inr.inr.inr.inr =>
  have h1:¬ op=1:=by omega
  have h2:¬ op=2:=by omega
  have h3:¬ op=3:=by omega
  have h4:¬ op=4:=by omega
  have h5:¬ op=5:=by omega
  have h6:¬ op=6:=by omega
  have h7:¬ op=7:=by omega
  have hl:=True.intro;rcases h with h|h
 case' inr.inr.inr.inr.inr.inr.inr.inr=>have h':¬ op<1:=by omega
 case' inr.inr.inr.inr.inr.inl =>
  by_cases hs:st=0
  try subst hs
 all_goals try cases hl:Uw st dl now
 all_goals try(rcases Zms hl with rfl|rfl<;>(by_cases ho:ow=client;try subst ho))
 all_goals
  go_enter func102,ntmps102;go_wp2_with (go_at_call 104;refine(Iz _ _ _ _ _ _).mono ?_;rintro e w1 ⟨rfl,hy⟩;(first|(have hx:=hx.trans hy)|(have hx:=hy));have hc:=fun i=>hx.cell (p:=⟨w.heap.size,i,none⟩) (by first|(simp;done)|(simp;omega));have hz:=fun i=>hx.frozen (p:=⟨w.heap.size,i,none⟩) (by first|(simp;done)|(simp;omega));have hs:w.heap.size+1≤w1.heap.size:=by(have hs1:=hx.size;simp at hs1;omega));go_ret;exact⟨by simp[V8,Ju, *],xE⟩
def Df(n:Nm):List Value:=[.string n.a,.string n.u,.string n.k]
def Wm:List Nm→List Value
 | []=>[]
 | n::r=>Df n++Wm r
theorem Ag:∀ l:List Nm,(Wm l).length=l.length*3
 | []=>rfl
 | n::r=>by rw[Wm,Zs,Ag r];simp[Df];omega
theorem Ud:∀ a b:List Nm,Wm (a++b)=Wm a++Wm b
 | [],_=>rfl
 | n::r,b=>by simp[Wm,Ud r b]
theorem Mw:∀ {l:List Nm} {j:Nat} {n:Nm},l[j]?=some n→(Wm l)[j*3]?=some (.string n.a)∧(Wm l)[j*3+1]?=some (.string n.u)∧(Wm l)[j*3+2]?=some (.string n.k)
 | m::r,0,n,h=>by
  simp only[Zx,Yd]at h;subst h;simp[Wm,Df]
 | m::r,j+1,n,h=>by
  obtain⟨h1,h2,h3⟩:=Mw (l:=r) (j:=j) (n:=n) (by simpa using h);have hm:(Df m).length=3:=rfl;have e:∀ k,(Wm (m::r))[(j+1)*3+k]?=(Wm r)[j*3+k]?:=fun k=>by
   rw[Wm,Zd (by omega),hm];congr 1;omega
  refine⟨?_,?_,?_⟩
  ·have:=e 0;simp only[Zix]at this;rw[this,h1]
  ·rw[e 1,h2]
  rw[e 2,h3]
theorem Tg(l:List Nm):∀ u∈Wm l,u.oneCell'=true:=by
 induction l with
 | nil=>simp[Wm]
 | cons n r ih =>
  intro u hu;rw[Wm,Zj]at hu;rcases hu with hu|hu
  ·simp only[Df,Zg,Zh,Zin]at hu;rcases hu with rfl|rfl|rfl<;>rfl
  exact ih u hu
def Vw(w:World)(S:Nat→Prop)(v:Value)(l:List Nm):Prop:=Rd w S 3 v l.length (Wm l)
theorem Vw.get{w:World}{S:Nat→Prop}{v:Value}{l:List Nm}(h:Vw w S v l){j:Nat}(hj:j<l.length) :
 ∃ g o c,v=.slice (some ⟨g,o,none⟩) l.length c∧l.length≤c∧c≤maxLen∧S g∧g<w.heap.size∧∀ i n,l[i]?=some n→w.cell? ⟨g,o+i*3,none⟩=some (.string n.a)∧w.cell? ⟨g,o+i*3+1,none⟩=some (.string n.u)∧w.cell? ⟨g,o+i*3+2,none⟩=some (.string n.k):=by
 obtain⟨g,o,c,h1,h2,h3,h4,h5,h6⟩:=h.at_ hj;refine⟨g,o,c,h1,h2,h3,h4,h5,fun i n hi=>?_⟩;obtain⟨q1,q2,q3⟩:=Mw hi;exact⟨h6 _ _ q1,by rw[Zid];exact h6 _ _ q2,by rw[Zid];exact h6 _ _ q3⟩
theorem Vw.ext{w w':World}{S:Nat→Prop}{v:Value}{l:List Nm}(h:Vw w S v l)(x:Ext w w'):Vw w' S v l:=Rd.ext h x
theorem Vw.shape{w:World}{S:Nat→Prop}{v:Value}{l:List Nm}(h:Vw w S v l):∃ A c,v=.slice A l.length c:=by
 obtain⟨_,A,c,h,_⟩:=h;exact⟨A,c,h⟩
def Jk(n:Nm):List UInt8:=n.k.data.toList
theorem Nw:∀ l:List Nm,srt l=true↔∀ i a b,l[i]?=some a→l[i+1]?=some b→Jk a<Jk b
 | []=>by simp[srt]
 | [x]=>by simp[srt]
 | x::y::r=>by
  rw[srt,Zjg,Zjm,Nw (y::r)];constructor
  ·rintro⟨h1,h2⟩ i a b ha hb;cases i with
   | zero=>simp at ha hb;subst ha hb;exact h1
   | succ i=>exact h2 i a b (by simpa using ha) (by simpa using hb)
  intro h;exact⟨h 0 x y rfl rfl,fun i a b ha hb=>h (i+1) a b (by simpa using ha) (by simpa using hb)⟩
theorem Rw{x s:ByteArray}(h:s.data.toList<x.data.toList):Op.bytesLess x.toList s.toList=false∧(x.toList==s.toList)=false:=by
 rw[Go.Proofs.bytesLess_eq,Zj1,Zj1];exact⟨by simpa using List.le_of_lt h,by simp;intro e;rw[e]at h;exact Zhz _ h⟩
theorem Fi{x s:ByteArray}(h:¬ s.data.toList<x.data.toList):(Op.bytesLess x.toList s.toList||x.toList==s.toList)=true:=by
 rw[Go.Proofs.bytesLess_eq,Zj1,Zj1];by_cases e:x.data.toList=s.data.toList
 ·simp[e]
 have:=Bq (List.not_lt.1 h) e;simp[this]
theorem Pn{S:Nat→Prop}(v:Value)(l:List Nm)(w:World)(hn:Vw w S v l) :
 Calls prog 155 #[v] w fun e w'=>e=.returned (.bool (srt l))∧Ext w w':=by
 obtain⟨A,c,rfl⟩:=hn.shape;have hlm:=hn.len;unfold maxLen at hlm;have Hn:=Y4 hn;clear hn;go_enter func155,ntmps155;go_wp2_with fail;go_loopw [3] (fun o wr=>∃ i:Nat,1≤i∧o=.int .i64 (i:Int)∧(∀ j a b,j+1<i→l[j]?=some a→l[j+1]?=some b→Jk a<Jk b)∧(i=1∨i≤l.length)∧Ext w wr) (fun o _=>l.length+1-(intOf o).toNat);case atStart=>exact⟨1,Yn _,rfl,fun j a b h=>by omega,.inl rfl,Yl _⟩
 obtain⟨i,hi,rfl,hso,hil,hx⟩:=hrel;have Hso:=Y4 hso;have Hx:=Y4 hx;clear hso hx;by_cases hlt:i<l.length
 ·have hd:decide ((i:Int)<(l.length:Int))=true:=by simpa using hlt
  obtain⟨g,o,c',hv,hc1,hc2,_,hg,hcell⟩:=(Hn.o.ext Hx.o).get (j:=i) hlt;simp only[Ye,Zjj]at hv;obtain⟨rfl,rfl⟩:=hv;obtain⟨a,ha⟩:∃ a,l[i-1]?=some a:=⟨l[i-1],by simp⟩;obtain⟨b,hb⟩:∃ b,l[i]?=some b:=⟨l[i],by simp[hlt]⟩;have c1:=(hcell _ _ ha).2.2;have c2:=(hcell _ _ hb).2.2;obtain⟨p,rfl⟩:∃ p,i=p+1:=⟨i-1,by omega⟩;simp only[Zic]at ha c1;have q0:(0:Int)≤(p:Int):=by omega
  have q1:(p:Int)<(l.length:Int):=by omega
  have q2:(0:Int)≤((p+1:Nat):Int):=by omega
  have q3:((p+1:Nat):Int)<(l.length:Int):=by omega
  have q4:IntKind.i64.wrap (((p+1:Nat):Int)-1)=(p:Int):=by rw[Yp _ (by omega)];omega
  have q5:c≤9223372036854775807:=by unfold maxLen at hc2;omega
  have Ha:=Y4 ha;have Hb:=Y4 hb;clear hcell ha hb;by_cases hk:Jk a<Jk b
  ·obtain⟨f1,f2⟩:=Rw hk;have Hk:=Y4 hk;clear hk;go_wp2_with fail;go_region;go_wp2_with fail;go_roundw;case rel =>
    refine⟨p+2,by omega,by go_num,fun j x y hj hx hy=>?_,by omega,Hx.o.drew⟩;by_cases hj2:j=p
    ·subst hj2;rw[Ha.o]at hx;rw[Hb.o]at hy;simp only[Yd]at hx hy;subst hx hy;exact Hk.o
    exact Hso.o j x y (by omega) hx hy
   case measure=>simp[intOf];omega
  have f1:=Fi hk;have Hno:=Y4 (show srt l=false from by
   rw[← Zg9,Nw];intro h;exact hk (h p a b Ha.o Hb.o))
  clear hk;go_wp2_with fail;go_region;go_wp2_with fail;go_ret;exact⟨by rw[Hno.o];rfl,Hx.o.drew⟩
 have hd:decide ((i:Int)<(l.length:Int))=false:=by simp;omega
 have Hall:=Y4 (show srt l=true from(Nw l).2 fun j a b ha hb=>Hso.o j a b (by have:=(Zr.1 hb).1;omega) ha hb);go_wp2_with fail;go_ret;exact⟨by rw[Hall.o];rfl,Hx.o⟩
theorem Mf{S:Nat→Prop}(v:Value)(l:List Nm)(w:World)(hn:Vw w S v l) :
 Calls prog 82 #[v] w fun e w'=>e=.returned (.bool (srt l))∧Ext w w':=by
 obtain⟨A,c,rfl⟩:=hn.shape;have hlm:=hn.len;unfold maxLen at hlm;have Hn:=Y4 hn;clear hn;go_enter func82,ntmps82;go_wp2_with fail;go_loopw [3] (fun o wr=>∃ i:Nat,1≤i∧o=.int .i64 (i:Int)∧(∀ j a b,j+1<i→l[j]?=some a→l[j+1]?=some b→Jk a<Jk b)∧(i=1∨i≤l.length)∧Ext w wr) (fun o _=>l.length+1-(intOf o).toNat);case atStart=>exact⟨1,Yn _,rfl,fun j a b h=>by omega,.inl rfl,Yl _⟩
 obtain⟨i,hi,rfl,hso,hil,hx⟩:=hrel;have Hso:=Y4 hso;have Hx:=Y4 hx;clear hso hx;by_cases hlt:i<l.length
 ·have hd:decide ((i:Int)<(l.length:Int))=true:=by simpa using hlt
  obtain⟨g,o,c',hv,hc1,hc2,_,hg,hcell⟩:=(Hn.o.ext Hx.o).get (j:=i) hlt;simp only[Ye,Zjj]at hv;obtain⟨rfl,rfl⟩:=hv;obtain⟨a,ha⟩:∃ a,l[i-1]?=some a:=⟨l[i-1],by simp⟩;obtain⟨b,hb⟩:∃ b,l[i]?=some b:=⟨l[i],by simp[hlt]⟩;have c1:=(hcell _ _ ha).2.2;have c2:=(hcell _ _ hb).2.2;obtain⟨p,rfl⟩:∃ p,i=p+1:=⟨i-1,by omega⟩;simp only[Zic]at ha c1;have q0:(0:Int)≤(p:Int):=by omega
  have q1:(p:Int)<(l.length:Int):=by omega
  have q2:(0:Int)≤((p+1:Nat):Int):=by omega
  have q3:((p+1:Nat):Int)<(l.length:Int):=by omega
  have q4:IntKind.i64.wrap (((p+1:Nat):Int)-1)=(p:Int):=by rw[Yp _ (by omega)];omega
  have q5:c≤9223372036854775807:=by unfold maxLen at hc2;omega
  have Ha:=Y4 ha;have Hb:=Y4 hb;clear hcell ha hb;by_cases hk:Jk a<Jk b
  ·obtain⟨f1,f2⟩:=Rw hk;have Hk:=Y4 hk;clear hk;go_wp2_with fail;go_region;go_wp2_with fail;go_roundw;case rel =>
    refine⟨p+2,by omega,by go_num,fun j x y hj hx hy=>?_,by omega,Hx.o.drew⟩;by_cases hj2:j=p
    ·subst hj2;rw[Ha.o]at hx;rw[Hb.o]at hy;simp only[Yd]at hx hy;subst hx hy;exact Hk.o
    exact Hso.o j x y (by omega) hx hy
   case measure=>simp[intOf];omega
  have f1:=Fi hk;have Hno:=Y4 (show srt l=false from by
   rw[← Zg9,Nw];intro h;exact hk (h p a b Ha.o Hb.o))
  clear hk;go_wp2_with fail;go_region;go_wp2_with fail;go_ret;exact⟨by rw[Hno.o];rfl,Hx.o.drew⟩
 have hd:decide ((i:Int)<(l.length:Int))=false:=by simp;omega
 have Hall:=Y4 (show srt l=true from(Nw l).2 fun j a b ha hb=>Hso.o j a b (by have:=(Zr.1 hb).1;omega) ha hb);go_wp2_with fail;go_ret;exact⟨by rw[Hall.o];rfl,Hx.o⟩
def Q7(n:Nm):Bool:=decide (1≤n.a.size)&&decide (n.a.size≤63)
structure Oq(cl client op ttl now:Int)(ns:List Nm):Prop where
 c0:0≤client
 c1:client<cl
 o0:1≤op
 o1:op≤7
 n0:0≤now
 n1:now≤1073741824
 t1:Wz op=true→1≤ttl∧ttl≤1073741824
 t0:Wz op=false→ttl=0
 l0:1≤ns.length
 l1:ns.length≤16
 q:op=7→ns.length≤1
 srt:srt ns=true
 good:ns.all Q7=true
instance (cl client op ttl now:Int) (ns:List Nm):Decidable (Oq cl client op ttl now ns) :=
 decidable_of_iff (0≤client∧client<cl∧1≤op∧op≤7∧0≤now∧now≤1073741824∧(Wz op=true→1≤ttl∧ttl≤1073741824)∧(Wz op=false→ttl=0)∧1≤ns.length∧ns.length≤16∧(op=7→ns.length≤1)∧srt ns=true∧ns.all Q7=true)
  ⟨fun⟨a,b,c,d,e,f,g,h,i,j,k,l,m⟩=>⟨a,b,c,d,e,f,g,h,i,j,k,l,m⟩,fun⟨a,b,c,d,e,f,g,h,i,j,k,l,m⟩=>⟨a,b,c,d,e,f,g,h,i,j,k,l,m⟩⟩
def Q1(cl client op ttl now:Int)(ns:List Nm):Bool:=decide (Oq cl client op ttl now ns)
structure Ax where
 e:Int
 at_:Int
 nm:ByteArray
 rc:Rc
 tick:Int
def rcV(r:Rc):Value:=.agg #[.int .i64 r.st,.int .i64 r.ow,.string r.nm,.int .i64 r.dl]
def Wu(r:Ax):Value:=.agg #[.int .i64 r.e,.int .i64 r.at_,.string r.nm,.int .i64 r.rc.st,.int .i64 r.rc.ow,.string r.rc.nm,.int .i64 r.rc.dl,.int .i64 r.tick]
def Zv0(cap op client now count:Int)(r:Rc):Int :=
 if V8 r.st r.ow r.dl op client now=0∧0<Xn r.st op∧cap≤count then 7 else V8 r.st r.ow r.dl op client now
def Jo(op count:Int)(r:Rc):Int:=if 0<Xn r.st op then count+1 else count
def Vk(cap op client now:Int):Nat→Int→List (Nm×Rc)→Option (Int×Nat×ByteArray)
 | _,_,[]=>none
 | i,count,p::l=>if Zv0 cap op client now count p.2=0 then Vk cap op client now (i+1) (Jo op count p.2) l else some (Zv0 cap op client now count p.2,i,p.1.a)
def Wq(cap op client ttl now count:Int)(ps:List (Nm×Rc)):Ax :=
 if Wz op=true∧1073741824-now<ttl then⟨8,-1,⟨#[]⟩,default,now⟩else
 match Vk cap op client now 0 count ps with
 | some (e,i,n)=>⟨e,i,n,default,now⟩
 | none=>⟨0,-1,⟨#[]⟩,match ps with | []=>default|p::_=>if op=7∧Uw p.2.st p.2.dl now=true then p.2 else default,now⟩
def Vr(op client dl:Int)(n:Nm)(r:Rc):Rc:=⟨J7 r.st op,Kq r.ow op client,Kr r.nm op n.a,J5 r.dl op dl⟩
def Qn(op client dl:Int)(l:List Kp)(ps:List (Nm×Rc)):List Kp:=ps.foldl (fun l p=>Jt l p.1.k (Vr op client dl p.1 p.2)) l
def Vy(l:List Kp)(ns:List Nm):List (Nm×Rc):=ns.map fun n=>(n,Xg l n.k)
def doR(cl cap:Int)(l:List Kp)(client op ttl now:Int)(ns:List Nm):Ax :=
 if Q1 cl client op ttl now ns=true then Wq cap op client ttl now l.length (Vy l ns)else⟨1,-1,⟨#[]⟩,default,0⟩
def doL(cl cap:Int)(l:List Kp)(client op ttl now:Int)(ns:List Nm):List Kp :=
 if Q1 cl client op ttl now ns=true∧(Wq cap op client ttl now l.length (Vy l ns)).e=0 then Qn op client (now+ttl) l (Vy l ns)else l
theorem Ih(l:List Kp)(ns:List Nm):(Vy l ns).length=ns.length:=by simp[Vy]
theorem Zop{l:List Kp}{ns:List Nm}{i:Nat}{n:Nm}(h:ns[i]?=some n):(Vy l ns)[i]?=some (n,Xg l n.k):=by simp[Vy,h]
theorem K2{α:Type}{l:List α}{i:Nat}{x:α}(h:l[i]?=some x):l.drop i=x::l.drop (i+1):=by
 obtain⟨hi,rfl⟩:=Zr.1 h;exact Zha hi
theorem take_at{α:Type}{l:List α}{i:Nat}{x:α}(h:l[i]?=some x):l.take (i+1)=l.take i++[x]:=by rw[Za,h];rfl
def K0(op:Int)(count:Int)(ps:List (Nm×Rc)):Int:=ps.foldl (fun c p=>Jo op c p.2) count
theorem Zwz(op count:Int)(ps:List (Nm×Rc)):count≤K0 op count ps∧K0 op count ps≤count+ps.length:=by
 induction ps generalizing count with
 | nil=>simp[K0]
 | cons p ps ih =>
  have:=ih (Jo op count p.2);have e:K0 op count (p::ps)=K0 op (Jo op count p.2) ps:=rfl;have hn:Jo op count p.2=count∨Jo op count p.2=count+1:=by unfold Jo;split<;>simp
  rw[e];simp only[Zl];omega
theorem Sh(op count:Int)(ps:List (Nm×Rc))(p:Nm×Rc):K0 op count (ps++[p])=Jo op (K0 op count ps) p.2:=by simp[K0,Zif]
theorem Zqj{op client d d':Int}(h:Wz op=true→d=d')(n:Nm)(r:Rc):Vr op client d n r=Vr op client d' n r:=by
 unfold Vr;have:J5 r.dl op d=J5 r.dl op d':=by
  unfold J5;by_cases h1:op=1
  ·rw[Zjx h1,Zjx h1,h (by simp[Wz,h1])]
  rw[Zk9 h1,Zk9 h1];by_cases h2:op=2
  ·rw[Zjx h2,Zjx h2]
  rw[Zk9 h2,Zk9 h2];by_cases h3:op=3
  ·rw[Zjx h3,Zjx h3,h (by simp[Wz,h3])]
  rw[Zk9 h3,Zk9 h3]
 rw[this]
theorem Aj(st op:Int):Xn st op=1∨Xn st op=0∨Xn st op = -1:=by by_cases h1:op=1<;>by_cases h2:st=0<;>by_cases h3:op=4∨op=5∨op=6<;>simp[Xn,h1,h2,h3]
structure Qt(cap op client now count:Int)(ps:List (Nm×Rc))(i:Nat)(c:Int):Prop where
 le:i≤ps.length
 cnt:c=K0 op count (ps.take i)
 go:Vk cap op client now 0 count ps=Vk cap op client now i c (ps.drop i)
theorem Qt.start(cap op client now count:Int)(ps:List (Nm×Rc)):Qt cap op client now count ps 0 count:=⟨Zjn _,rfl,rfl⟩
theorem Qt.bd{cap op client now count c:Int}{ps:List (Nm×Rc)}{i:Nat}(h:Qt cap op client now count ps i c):count≤c∧c≤count+i:=by
 have:=Zwz op count (ps.take i);rw[← h.cnt,Zp]at this;omega
theorem Qt.next{cap op client now count c:Int}{ps:List (Nm×Rc)}{i:Nat}{p:Nm×Rc}(h:Qt cap op client now count ps i c)(hp:ps[i]?=some p)(h0:Zv0 cap op client now c p.2=0) :
 Qt cap op client now count ps (i+1) (Jo op c p.2):=by
 have hi:=(Zr.1 hp).1;refine⟨hi,?_,?_⟩
 ·rw[take_at hp,Sh,← h.cnt]
 rw[h.go,K2 hp,Vk,Zjx h0]
theorem Qt.stop{cap op client now count c:Int}{ps:List (Nm×Rc)}{i:Nat}{p:Nm×Rc}(h:Qt cap op client now count ps i c)(hp:ps[i]?=some p)(h0:Zv0 cap op client now c p.2≠0) :
 Vk cap op client now 0 count ps=some (Zv0 cap op client now c p.2,i,p.1.a):=by
 rw[h.go,K2 hp,Vk,Zk9 h0]
theorem Qt.done{cap op client now count c:Int}{ps:List (Nm×Rc)}(h:Qt cap op client now count ps ps.length c):Vk cap op client now 0 count ps=none:=by
 rw[h.go,List.drop_length,Vk]
section
def KS(l:List Nm):Prop:=∀ n∈l,n.k.size≤16384
theorem KS.nil:KS []:=fun _ h=>by cases h
theorem KS.snoc{l:List Nm}{n:Nm}(h:KS l)(hn:n.k.size≤16384):KS (l++[n]):=fun x hx=>by
 rcases Zj.1 hx with h1|h1
 ·exact h x h1
 rw[Zi.1 h1];exact hn
def Behind(o:Option (List UInt8))(n:Nm):Bool:=match o with|none=>true|some x=>decide (x<kb n.k)
def Gd(L:List Nm)(o:Option (List UInt8)):Nat:=L.countP (fun n=>!Behind o n)
theorem Cz(L:List Nm):Gd L none=0:=by unfold Gd Behind;simp
theorem behind_next{o:Option (List UInt8)}{m n:Nm}(hm:Behind o m=true)(hn:Behind o n=false):Behind (some (kb m.k)) n=false:=by
 cases o with
 | none=>simp[Behind]at hn
 | some x =>
  simp only[Behind,Zjm,Zji]at hm hn⊢;intro h;exact hn (Zh7 hm h)
theorem On{L:List Nm}{o:Option (List UInt8)}{m n:Nm}(hm:Behind o m=true)(hmin:Behind o n=true→¬ kb n.k<kb m.k)(hne:n.k≠m.k):Behind (some (kb m.k)) n=Behind o n:=by
 cases hb:Behind o n
 ·exact behind_next hm hb
 simp only[Behind,Zjm];rcases Zoe hne with h|h
 ·exact absurd h (hmin hb)
 exact h
theorem Cy{L:List Nm}{o:Option (List UInt8)}{k:Nat}{m:Nm}(hk:L[k]?=some m)(hm:Behind o m=true)(hmin:∀ n∈L,Behind o n=true→¬ kb n.k<kb m.k)(huq:∀ i n,L[i]?=some n→n.k=m.k→i=k) :
 Gd L (some (kb m.k))=Gd L o+1:=by
 have hkl:=(Zr.1 hk).1;have e:L=L.take k++m::L.drop (k+1):=by
  have:=Zr.1 hk;obtain⟨h1,h2⟩:=this;rw[← h2];simp
 have a1:(L.take k).countP (fun n=>!Behind (some (kb m.k)) n)=(L.take k).countP (fun n=>!Behind o n):=by
  apply List.countP_congr;intro n hn;obtain⟨i,hi,rfl⟩:=List.mem_iff_getElem.1 hn;have hi':i<k:=by rw[Zp]at hi;omega
  have hin:L[i]?=some (L.take k)[i]:=by rw[List.getElem_take];exact Zz _
  rw[On (L:=L) hm (hmin _ (Zy hin)) (fun e=>by have:=huq _ _ hin e;omega)]
 have a2:(L.drop (k+1)).countP (fun n=>!Behind (some (kb m.k)) n)=(L.drop (k+1)).countP (fun n=>!Behind o n):=by
  apply List.countP_congr;intro n hn;obtain⟨i,hi,rfl⟩:=List.mem_iff_getElem.1 hn;have hin:L[k+1+i]?=some (L.drop (k+1))[i]:=by rw[List.getElem_drop];exact Zz _
  rw[On (L:=L) hm (hmin _ (Zy hin)) (fun e=>by have:=huq _ _ hin e;omega)]
 have b1:Behind (some (kb m.k)) m=false:=by simp[Behind,Zhz]
 unfold Gd;rw[e,Zge,Zge,a1,Zi7,Zi7,a2,b1,hm];simp;omega
theorem I9{L:List Nm}{o:Option (List UInt8)}(h:Gd L o<L.length):∃ (k:Nat) (m:Nm),L[k]?=some m∧Behind o m=true:=by
 refine Zik fun hn=>?_
 have:Gd L o=L.length:=by
  unfold Gd;rw[List.countP_eq_length];intro n hm;obtain⟨k,hk⟩:=Zjr hm;cases hb:Behind o n
  ·rfl
  exact absurd ⟨k,n,hk,hb⟩ hn
 omega
def Sel(L:List Nm)(o:Option (List UInt8))(i:Nat)(z:Int):Prop :=
 (z = -1∧∀ j n,j<i→L[j]?=some n→Behind o n=false) ∨
 ∃ (k:Nat) (m:Nm),z=(k:Int)∧k<i∧L[k]?=some m∧Behind o m=true∧(∀ j n,j<i→L[j]?=some n→Behind o n=true→¬ kb n.k<kb m.k)∧∀ j n,j<k→L[j]?=some n→n.k≠m.k
section
variable {L:List Nm} {o:Option (List UInt8)} {i:Nat} {z:Int} {n:Nm}
theorem Om{m n:Nm}(h:n.k=m.k):Behind o n=Behind o m:=by cases o<;>simp[Behind,h]
theorem Sel.start(L:List Nm)(o:Option (List UInt8)):Sel L o 0 (-1):=.inl ⟨rfl,fun j n h=>by omega⟩
theorem Sel.skip(h:Sel L o i z)(hn:L[i]?=some n)(hb:Behind o n=false):Sel L o (i+1) z:=by
 rcases h with⟨rfl,h⟩ | ⟨k,m,rfl,hk,hm,hb2,h1,h2⟩
 ·refine .inl ⟨rfl,fun j x hj hx=>?_⟩;rcases(show j<i∨j=i by omega)with h3|rfl
  ·exact h j x h3 hx
  rw[hn]at hx;cases hx;exact hb
 refine .inr ⟨k,m,rfl,by omega,hm,hb2,fun j x hj hx hbx=>?_,h2⟩;rcases(show j<i∨j=i by omega)with h3|rfl
 ·exact h1 j x h3 hx hbx
 rw[hn]at hx;cases hx;rw[hb]at hbx;cases hbx
theorem Sel.first(h:Sel L o i (-1))(hn:L[i]?=some n)(hb:Behind o n=true):Sel L o (i+1) (i:Int):=by
 rcases h with⟨_,h⟩ | ⟨k,m,e,_⟩
 ·refine .inr ⟨i,n,rfl,by omega,hn,hb,fun j x hj hx hbx=>?_,fun j x hj hx e=>?_⟩
  ·rcases(show j<i∨j=i by omega)with h3|rfl
   ·rw[h j x h3 hx]at hbx;cases hbx
   rw[hn]at hx;cases hx;exact Zhz _
  have:=h j x hj hx;rw[Om e,hb]at this;cases this
 omega
theorem Sel.less{k:Nat}{m:Nm}(h:Sel L o i (k:Int))(hm:L[k]?=some m)(hn:L[i]?=some n)(hb:Behind o n=true)(hl:kb n.k<kb m.k):Sel L o (i+1) (i:Int):=by
 rcases h with⟨e,_⟩ | ⟨k',m',e,hk,hm',hb2,h1,h2⟩
 ·omega
 obtain rfl:k'=k:=by omega
 rw[hm]at hm';cases hm'
 refine .inr ⟨i,n,rfl,by omega,hn,hb,fun j x hj hx hbx hlt=>?_,fun j x hj hx e=>?_⟩
 ·rcases(show j<i∨j=i by omega)with h3|rfl
  ·exact h1 j x h3 hx hbx (Zh7 hlt hl)
  rw[hn]at hx;cases hx;exact Zhz _ hlt
 exact h1 j x hj hx (by rw[Om e];exact hb) (by rw[e];exact hl)
theorem Sel.keep{k:Nat}{m:Nm}(h:Sel L o i (k:Int))(hm:L[k]?=some m)(hn:L[i]?=some n)(hl:¬ kb n.k<kb m.k):Sel L o (i+1) (k:Int):=by
 rcases h with⟨e,_⟩ | ⟨k',m',e,hk,hm',hb2,h1,h2⟩
 ·omega
 obtain rfl:k'=k:=by omega
 rw[hm]at hm';cases hm'
 refine .inr ⟨k',m,rfl,by omega,hm,hb2,fun j x hj hx hbx=>?_,h2⟩;rcases(show j<i∨j=i by omega)with h3|rfl
 ·exact h1 j x h3 hx hbx
 rw[hn]at hx;cases hx;exact hl
theorem Sel.at_(h:Sel L o i z):z = -1∨∃ (k:Nat) (m:Nm),z=(k:Int)∧k<i∧L[k]?=some m:=by
 rcases h with⟨e,_⟩ | ⟨k,m,e,hk,hm,_⟩
 ·exact .inl e
 exact .inr ⟨k,m,e,hk,hm⟩
theorem Sel.found(h:Sel L o L.length z)(hc:Gd L o<L.length):∃ (k:Nat) (m:Nm),z=(k:Int)∧k<L.length∧L[k]?=some m∧Behind o m=true∧(∀ x∈L,Behind o x=true→¬ kb x.k<kb m.k)∧∀ j x,j<k→L[j]?=some x→x.k≠m.k:=by
 rcases h with⟨_,h⟩ | ⟨k,m,e,hk,hm,hb2,h1,h2⟩
 ·obtain⟨k,m,hm,hb⟩:=I9 hc;rw[h k m (Zr.1 hm).1 hm]at hb;cases hb
 refine⟨k,m,e,hk,hm,hb2,fun x hx hbx=>?_,h2⟩;obtain⟨j,hj⟩:=Zjr hx;exact h1 j x (Zr.1 hj).1 hj hbx
def Fq(out:List Nm):Option (List UInt8):=out.getLast?.map fun n=>kb n.k
def KG(l:List Nm):Prop:=KS l∧l.all Q7=true
theorem KG.nil:KG []:=⟨KS.nil,rfl⟩
theorem KG.snoc{l:List Nm}{n:Nm}(h:KG l)(hn:n.k.size≤16384)(hg:Q7 n=true):KG (l++[n]):=⟨h.1.snoc hn,by rw[List.all_append,h.2];simp[hg]⟩
theorem Zxq:∀ {l:List Nm} {m:Nm},srt l=true→Behind (Fq l) m=true→srt (l++[m])=true
 | [],_,_,_=>rfl
 | [x],m,_,h=>by
  have:kb x.k<kb m.k:=by simpa[Behind,Fq]using h
  show(decide (kb x.k<kb m.k)&&srt [m])=true;rw[Yf this];rfl
 | x::y::r,m,hs,h=>by
  have e:Fq (x::y::r)=Fq (y::r):=by simp[Fq]
  rw[srt,Zjg]at hs;have ih:=Zxq (l:=y::r) hs.2 (e▸h);show(decide (x.k.data.toList<y.k.data.toList)&&srt ((y::r)++[m]))=true;rw[ih,hs.1];rfl
theorem Zwl(out:List Nm)(m:Nm):Fq (out++[m])=some (kb m.k):=by simp[Fq]
theorem Zpw{out:List Nm}{y:Nm}(h:out[out.length-1]?=some y):Fq out=some (kb y.k):=by
 unfold Fq;rw[Zh0,h];rfl
theorem Tn{a b:ByteArray}(h:kb a<kb b):Op.bytesLess a.toList b.toList=true:=by
 rw[Go.Proofs.bytesLess_eq,Zj1,Zj1];unfold kb at h;simpa using h
theorem Pz{a b:ByteArray}(h:¬ kb a<kb b):Op.bytesLess a.toList b.toList=false:=by
 rw[Go.Proofs.bytesLess_eq,Zj1,Zj1];unfold kb at h;simpa using h
theorem Zmv{x s:ByteArray}(h:kb s<kb x):Op.bytesLess x.toList s.toList=false∧(x.toList==s.toList)=false:=by
 unfold kb at h;exact Rw h
theorem Zq4{x s:ByteArray}(h:¬ kb s<kb x):(!Op.bytesLess x.toList s.toList&&!(x.toList==s.toList))=false:=by
 unfold kb at h;have:=Fi h;cases h1:Op.bytesLess x.toList s.toList<;>cases h2:(x.toList==s.toList)<;>simp_all
end
end
