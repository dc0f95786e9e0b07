/- Lemmas of this claim: Record, Record2, Names, Judge. Conditions: as named. -/
import Derived.Deep.RegionHeld3
import Derived.Laws.BitsAllLaws
import Derived.Laws.DeepNot64
import Derived.Laws.IdiomCopy
import Derived.Sort.Walk0
import Derived.WalkSmall
import Derived.Test.YtnbclgbicnpmnaaGreatA02
namespace Go.Proofs.YtnbclgbicnpmnaaGreat
open Go.RowKit Go.Sort
set_option maxHeartbeats 0
set_option maxRecDepth 100000
set_option linter.all false
def Xn(st op:Int):Int:=if op=1 then(if st=0 then 1 else 0)else if op=4∨op=5∨op=6 then(if st=0 then 0 else -1)else 0
theorem Ak(op:Int):op=1∨op=4∨op=5∨op=6∨(op≠1∧op≠4∧op≠5∧op≠6):=by omega
theorem Zqa(op:Int):op=1∨op=2∨op=3∨op=4∨op=5∨op=6∨op=7∨(op<1∨7<op):=by omega
theorem Rz(st ow dl op:Int)(nm:ByteArray)(w:World) :
 Calls Tryz.prog 161 #[.agg #[.int .i64 st,.int .i64 ow,.string nm,.int .i64 dl],.int .i64 op] w fun e w'=>e=.returned (.int .i64 (Xn st op))∧Ext w w':=by
 by_cases hs:st=0
 ·subst hs;rcases Ak op with rfl|rfl|rfl|rfl|h
  ·have H:=Y4 (show Xn 0 1=1 by simp[Xn]);go_enter Tryz.func161,Tryz.ntmps161;go_wp2;go_ret;exact⟨by rw[H.o];rfl,xE⟩
  ·have H:=Y4 (show Xn 0 4=0 by simp[Xn]);go_enter Tryz.func161,Tryz.ntmps161;go_wp2;go_ret;exact⟨by rw[H.o];rfl,xE⟩
  ·have H:=Y4 (show Xn 0 5=0 by simp[Xn]);go_enter Tryz.func161,Tryz.ntmps161;go_wp2;go_ret;exact⟨by rw[H.o];rfl,xE⟩
  ·have H:=Y4 (show Xn 0 6=0 by simp[Xn]);go_enter Tryz.func161,Tryz.ntmps161;go_wp2;go_ret;exact⟨by rw[H.o];rfl,xE⟩
  have H:=Y4 (show Xn 0 op=0 by simp[Xn,h.1,h.2.1,h.2.2.1,h.2.2.2]);obtain⟨h1,h2,h3,h4⟩:=h;go_enter Tryz.func161,Tryz.ntmps161;go_wp2;go_ret;exact⟨by rw[H.o];rfl,xE⟩
 rcases Ak op with rfl|rfl|rfl|rfl|h
 ·have H:=Y4 (show Xn st 1=0 by simp[Xn,hs]);go_enter Tryz.func161,Tryz.ntmps161;go_wp2;go_ret;exact⟨by rw[H.o];rfl,xE⟩
 ·have H:=Y4 (show Xn st 4 = -1 by simp[Xn,hs]);go_enter Tryz.func161,Tryz.ntmps161;go_wp2;go_ret;exact⟨by rw[H.o];rfl,xE⟩
 ·have H:=Y4 (show Xn st 5 = -1 by simp[Xn,hs]);go_enter Tryz.func161,Tryz.ntmps161;go_wp2;go_ret;exact⟨by rw[H.o];rfl,xE⟩
 ·have H:=Y4 (show Xn st 6 = -1 by simp[Xn,hs]);go_enter Tryz.func161,Tryz.ntmps161;go_wp2;go_ret;exact⟨by rw[H.o];rfl,xE⟩
 have H:=Y4 (show Xn st op=0 by simp[Xn,h.1,h.2.1,h.2.2.1,h.2.2.2]);obtain⟨h1,h2,h3,h4⟩:=h;go_enter Tryz.func161,Tryz.ntmps161;go_wp2;go_ret;exact⟨by rw[H.o];rfl,xE⟩
theorem Nh(st ow dl op:Int)(nm:ByteArray)(w:World) :
 Calls Tryz.prog 103 #[.agg #[.int .i64 st,.int .i64 ow,.string nm,.int .i64 dl],.int .i64 op] w fun e w'=>e=.returned (.int .i64 (Xn st op))∧Ext w w':=by
 by_cases hs:st=0
 ·subst hs;rcases Ak op with rfl|rfl|rfl|rfl|h
  ·have H:=Y4 (show Xn 0 1=1 by simp[Xn]);go_enter Tryz.func103,Tryz.ntmps103;go_wp2;go_ret;exact⟨by rw[H.o];rfl,xE⟩
  ·have H:=Y4 (show Xn 0 4=0 by simp[Xn]);go_enter Tryz.func103,Tryz.ntmps103;go_wp2;go_ret;exact⟨by rw[H.o];rfl,xE⟩
  ·have H:=Y4 (show Xn 0 5=0 by simp[Xn]);go_enter Tryz.func103,Tryz.ntmps103;go_wp2;go_ret;exact⟨by rw[H.o];rfl,xE⟩
  ·have H:=Y4 (show Xn 0 6=0 by simp[Xn]);go_enter Tryz.func103,Tryz.ntmps103;go_wp2;go_ret;exact⟨by rw[H.o];rfl,xE⟩
  have H:=Y4 (show Xn 0 op=0 by simp[Xn,h.1,h.2.1,h.2.2.1,h.2.2.2]);obtain⟨h1,h2,h3,h4⟩:=h;go_enter Tryz.func103,Tryz.ntmps103;go_wp2;go_ret;exact⟨by rw[H.o];rfl,xE⟩
 rcases Ak op with rfl|rfl|rfl|rfl|h
 ·have H:=Y4 (show Xn st 1=0 by simp[Xn,hs]);go_enter Tryz.func103,Tryz.ntmps103;go_wp2;go_ret;exact⟨by rw[H.o];rfl,xE⟩
 ·have H:=Y4 (show Xn st 4 = -1 by simp[Xn,hs]);go_enter Tryz.func103,Tryz.ntmps103;go_wp2;go_ret;exact⟨by rw[H.o];rfl,xE⟩
 ·have H:=Y4 (show Xn st 5 = -1 by simp[Xn,hs]);go_enter Tryz.func103,Tryz.ntmps103;go_wp2;go_ret;exact⟨by rw[H.o];rfl,xE⟩
 ·have H:=Y4 (show Xn st 6 = -1 by simp[Xn,hs]);go_enter Tryz.func103,Tryz.ntmps103;go_wp2;go_ret;exact⟨by rw[H.o];rfl,xE⟩
 have H:=Y4 (show Xn st op=0 by simp[Xn,h.1,h.2.1,h.2.2.1,h.2.2.2]);obtain⟨h1,h2,h3,h4⟩:=h;go_enter Tryz.func103,Tryz.ntmps103;go_wp2;go_ret;exact⟨by rw[H.o];rfl,xE⟩
def Jh(st op:Int):Int:=if op=1 then 1 else if op=2 then 2 else if op=4∨op=5∨op=6 then 0 else st
def J3(ow op client:Int):Int:=if op=1 then client else if op=4∨op=5∨op=6 then 0 else ow
def J2(nm:ByteArray)(op:Int)(name:ByteArray):ByteArray:=if op=1 then name else if op=4∨op=5∨op=6 then⟨#[]⟩else nm
def Jl(dl op deadline:Int):Int:=if op=1 then deadline else if op=2 then 0 else if op=3 then deadline else if op=4∨op=5∨op=6 then 0 else dl
theorem Pe(st ow dl op client deadline:Int)(nm name:ByteArray)(w:World) :
 Calls Tryz.prog 162 #[.agg #[.int .i64 st,.int .i64 ow,.string nm,.int .i64 dl],.int .i64 op,.int .i64 client,.string name,.int .i64 deadline] w fun e w' =>
  e=.returned (.agg #[.int .i64 (Jh st op),.int .i64 (J3 ow op client),.string (J2 nm op name),.int .i64 (Jl dl op deadline)])∧Ext w w':=by
 rcases Zqa op with rfl|rfl|rfl|rfl|rfl|rfl|rfl|h
 ·go_enter Tryz.func162,Tryz.ntmps162;go_wp2;exact Ys (v:=.agg #[.int .i64 (Jh st 1),.int .i64 (J3 ow 1 client),.string (J2 nm 1 name),.int .i64 (Jl dl 1 deadline)]) (by simp[results,Tryz.results162,go_sem,Jh,J3,J2,Jl]) rfl ⟨rfl,xE⟩
 ·go_enter Tryz.func162,Tryz.ntmps162;go_wp2;exact Ys (v:=.agg #[.int .i64 (Jh st 2),.int .i64 (J3 ow 2 client),.string (J2 nm 2 name),.int .i64 (Jl dl 2 deadline)]) (by simp[results,Tryz.results162,go_sem,Jh,J3,J2,Jl]) rfl ⟨rfl,xE⟩
 ·go_enter Tryz.func162,Tryz.ntmps162;go_wp2;exact Ys (v:=.agg #[.int .i64 (Jh st 3),.int .i64 (J3 ow 3 client),.string (J2 nm 3 name),.int .i64 (Jl dl 3 deadline)]) (by simp[results,Tryz.results162,go_sem,Jh,J3,J2,Jl]) rfl ⟨rfl,xE⟩
 ·go_enter Tryz.func162,Tryz.ntmps162;go_wp2;exact Ys (v:=.agg #[.int .i64 (Jh st 4),.int .i64 (J3 ow 4 client),.string (J2 nm 4 name),.int .i64 (Jl dl 4 deadline)]) (by simp[results,Tryz.results162,go_sem,Jh,J3,J2,Jl]) rfl ⟨rfl,xE⟩
 ·go_enter Tryz.func162,Tryz.ntmps162;go_wp2;exact Ys (v:=.agg #[.int .i64 (Jh st 5),.int .i64 (J3 ow 5 client),.string (J2 nm 5 name),.int .i64 (Jl dl 5 deadline)]) (by simp[results,Tryz.results162,go_sem,Jh,J3,J2,Jl]) rfl ⟨rfl,xE⟩
 ·go_enter Tryz.func162,Tryz.ntmps162;go_wp2;exact Ys (v:=.agg #[.int .i64 (Jh st 6),.int .i64 (J3 ow 6 client),.string (J2 nm 6 name),.int .i64 (Jl dl 6 deadline)]) (by simp[results,Tryz.results162,go_sem,Jh,J3,J2,Jl]) rfl ⟨rfl,xE⟩
 ·go_enter Tryz.func162,Tryz.ntmps162;go_wp2;exact Ys (v:=.agg #[.int .i64 (Jh st 7),.int .i64 (J3 ow 7 client),.string (J2 nm 7 name),.int .i64 (Jl dl 7 deadline)]) (by simp[results,Tryz.results162,go_sem,Jh,J3,J2,Jl]) rfl ⟨rfl,xE⟩
 have h1:¬ op=1:=by omega
 have h2:¬ op=2:=by omega
 have h3:¬ op=3:=by omega
 have h4:¬ op=4:=by omega
 have h5:¬ op=5:=by omega
 have h6:¬ op=6:=by omega
 go_enter Tryz.func162,Tryz.ntmps162;go_wp2;exact Ys (v:=.agg #[.int .i64 (Jh st op),.int .i64 (J3 ow op client),.string (J2 nm op name),.int .i64 (Jl dl op deadline)]) (by simp[results,Tryz.results162,go_sem,Jh,J3,J2,Jl,h1,h2,h3,h4,h5,h6]) rfl ⟨rfl,xE⟩
theorem Zxn(st ow dl op client deadline:Int)(nm name:ByteArray)(w:World) :
 Calls Tryz.prog 74 #[.agg #[.int .i64 st,.int .i64 ow,.string nm,.int .i64 dl],.int .i64 op,.int .i64 client,.string name,.int .i64 deadline] w fun e w' =>
  e=.returned (.agg #[.int .i64 (Jh st op),.int .i64 (J3 ow op client),.string (J2 nm op name),.int .i64 (Jl dl op deadline)])∧Ext w w':=by
 rcases Zqa op with rfl|rfl|rfl|rfl|rfl|rfl|rfl|h
 ·go_enter Tryz.func74,Tryz.ntmps74;go_wp2;exact Ys (v:=.agg #[.int .i64 (Jh st 1),.int .i64 (J3 ow 1 client),.string (J2 nm 1 name),.int .i64 (Jl dl 1 deadline)]) (by simp[results,Tryz.results74,go_sem,Jh,J3,J2,Jl]) rfl ⟨rfl,xE⟩
 ·go_enter Tryz.func74,Tryz.ntmps74;go_wp2;exact Ys (v:=.agg #[.int .i64 (Jh st 2),.int .i64 (J3 ow 2 client),.string (J2 nm 2 name),.int .i64 (Jl dl 2 deadline)]) (by simp[results,Tryz.results74,go_sem,Jh,J3,J2,Jl]) rfl ⟨rfl,xE⟩
 ·go_enter Tryz.func74,Tryz.ntmps74;go_wp2;exact Ys (v:=.agg #[.int .i64 (Jh st 3),.int .i64 (J3 ow 3 client),.string (J2 nm 3 name),.int .i64 (Jl dl 3 deadline)]) (by simp[results,Tryz.results74,go_sem,Jh,J3,J2,Jl]) rfl ⟨rfl,xE⟩
 ·go_enter Tryz.func74,Tryz.ntmps74;go_wp2;exact Ys (v:=.agg #[.int .i64 (Jh st 4),.int .i64 (J3 ow 4 client),.string (J2 nm 4 name),.int .i64 (Jl dl 4 deadline)]) (by simp[results,Tryz.results74,go_sem,Jh,J3,J2,Jl]) rfl ⟨rfl,xE⟩
 ·go_enter Tryz.func74,Tryz.ntmps74;go_wp2;exact Ys (v:=.agg #[.int .i64 (Jh st 5),.int .i64 (J3 ow 5 client),.string (J2 nm 5 name),.int .i64 (Jl dl 5 deadline)]) (by simp[results,Tryz.results74,go_sem,Jh,J3,J2,Jl]) rfl ⟨rfl,xE⟩
 ·go_enter Tryz.func74,Tryz.ntmps74;go_wp2;exact Ys (v:=.agg #[.int .i64 (Jh st 6),.int .i64 (J3 ow 6 client),.string (J2 nm 6 name),.int .i64 (Jl dl 6 deadline)]) (by simp[results,Tryz.results74,go_sem,Jh,J3,J2,Jl]) rfl ⟨rfl,xE⟩
 ·go_enter Tryz.func74,Tryz.ntmps74;go_wp2;exact Ys (v:=.agg #[.int .i64 (Jh st 7),.int .i64 (J3 ow 7 client),.string (J2 nm 7 name),.int .i64 (Jl dl 7 deadline)]) (by simp[results,Tryz.results74,go_sem,Jh,J3,J2,Jl]) rfl ⟨rfl,xE⟩
 have h1:¬ op=1:=by omega
 have h2:¬ op=2:=by omega
 have h3:¬ op=3:=by omega
 have h4:¬ op=4:=by omega
 have h5:¬ op=5:=by omega
 have h6:¬ op=6:=by omega
 go_enter Tryz.func74,Tryz.ntmps74;go_wp2;exact Ys (v:=.agg #[.int .i64 (Jh st op),.int .i64 (J3 ow op client),.string (J2 nm op name),.int .i64 (Jl dl op deadline)]) (by simp[results,Tryz.results74,go_sem,Jh,J3,J2,Jl,h1,h2,h3,h4,h5,h6]) rfl ⟨rfl,xE⟩
def Q5(st ow dl state client now:Int):Int :=
 if Ke st dl now=false then 23 else if ow=client then(if st=state then 0 else 26)else 25
def Vg(st ow dl op client now:Int):Int :=
 if op=1 then(if Ke st dl now=true then 24 else 0)
 else if op=2∨op=3∨op=4 then Q5 st ow dl 1 client now
 else if op=5 then Q5 st ow dl 2 client now
 else if op=6 then(if st=0 then 23 else if Ke st dl now=true then 26 else 0)
 else if op=7 then 0 else 1
theorem Bb(st ow dl state client now:Int)(nm:ByteArray)(w:World) :
 Calls Tryz.prog 174 #[.agg #[.int .i64 st,.int .i64 ow,.string nm,.int .i64 dl],.int .i64 state,.int .i64 client,.int .i64 now] w fun e w'=>e=.returned (.int .i64 (Q5 st ow dl state client now))∧Ext w w':=by
 cases hl:Ke st dl now
 ·have H:=Y4 (show Q5 st ow dl state client now=23 by simp[Q5,hl]);go_enter Tryz.func174,Tryz.ntmps174;go_wp2_with (go_at_call 163;refine(Qx _ _ _ _ _ _).mono ?_;rintro e w1 ⟨rfl,hy⟩;(first|(have hx:=hx.trans hy)|(have hx:=hy));have hc:=fun i=>hx.cell (p:=⟨w.heap.size,i,none⟩) (by first|(simp;done)|(simp;omega));have hz:=fun i=>hx.frozen (p:=⟨w.heap.size,i,none⟩) (by first|(simp;done)|(simp;omega));have hs:w.heap.size+1≤w1.heap.size:=by(have hs1:=hx.size;simp at hs1;omega));go_ret;exact⟨by rw[H.o];rfl,xE⟩
 by_cases ho:ow=client
 ·subst ho;by_cases hs:st=state
  ·subst hs;have H:=Y4 (show Q5 st ow dl st ow now=0 by simp[Q5,hl]);go_enter Tryz.func174,Tryz.ntmps174;go_wp2_with (go_at_call 163;refine(Qx _ _ _ _ _ _).mono ?_;rintro e w1 ⟨rfl,hy⟩;(first|(have hx:=hx.trans hy)|(have hx:=hy));have hc:=fun i=>hx.cell (p:=⟨w.heap.size,i,none⟩) (by first|(simp;done)|(simp;omega));have hz:=fun i=>hx.frozen (p:=⟨w.heap.size,i,none⟩) (by first|(simp;done)|(simp;omega));have hs:w.heap.size+1≤w1.heap.size:=by(have hs1:=hx.size;simp at hs1;omega));go_ret;exact⟨by rw[H.o];rfl,xE⟩
  have H:=Y4 (show Q5 st ow dl state ow now=26 by simp[Q5,hl,hs]);go_enter Tryz.func174,Tryz.ntmps174;go_wp2_with (go_at_call 163;refine(Qx _ _ _ _ _ _).mono ?_;rintro e w1 ⟨rfl,hy⟩;(first|(have hx:=hx.trans hy)|(have hx:=hy));have hc:=fun i=>hx.cell (p:=⟨w.heap.size,i,none⟩) (by first|(simp;done)|(simp;omega));have hz:=fun i=>hx.frozen (p:=⟨w.heap.size,i,none⟩) (by first|(simp;done)|(simp;omega));have hs:w.heap.size+1≤w1.heap.size:=by(have hs1:=hx.size;simp at hs1;omega));go_ret;exact⟨by rw[H.o];rfl,xE⟩
 have H:=Y4 (show Q5 st ow dl state client now=25 by simp[Q5,hl,ho]);go_enter Tryz.func174,Tryz.ntmps174;go_wp2_with (go_at_call 163;refine(Qx _ _ _ _ _ _).mono ?_;rintro e w1 ⟨rfl,hy⟩;(first|(have hx:=hx.trans hy)|(have hx:=hy));have hc:=fun i=>hx.cell (p:=⟨w.heap.size,i,none⟩) (by first|(simp;done)|(simp;omega));have hz:=fun i=>hx.frozen (p:=⟨w.heap.size,i,none⟩) (by first|(simp;done)|(simp;omega));have hs:w.heap.size+1≤w1.heap.size:=by(have hs1:=hx.size;simp at hs1;omega));go_ret;exact⟨by rw[H.o];rfl,xE⟩
theorem Zun(op:Int):op=1∨op=2∨op=3∨op=4∨op=5∨op=6∨op=7∨(op<1∨7<op):=by omega
theorem Zz1(st ow dl op client now:Int)(nm:ByteArray)(w:World) :
 Calls Tryz.prog 160 #[.agg #[.int .i64 st,.int .i64 ow,.string nm,.int .i64 dl],.int .i64 op,.int .i64 client,.int .i64 now] w fun e w'=>e=.returned (.int .i64 (Vg st ow dl op client now))∧Ext w w':=by
 rcases Zun op with rfl|rfl|rfl|rfl|rfl|rfl|rfl|h
 ·cases hl:Ke st dl now
  ·have H:=Y4 (show Vg st ow dl 1 client now=0 by simp[Vg,hl]);go_enter Tryz.func160,Tryz.ntmps160;go_wp2_with (go_at_call 163;refine(Qx _ _ _ _ _ _).mono ?_;rintro e w1 ⟨rfl,hy⟩;(first|(have hx:=hx.trans hy)|(have hx:=hy));have hc:=fun i=>hx.cell (p:=⟨w.heap.size,i,none⟩) (by first|(simp;done)|(simp;omega));have hz:=fun i=>hx.frozen (p:=⟨w.heap.size,i,none⟩) (by first|(simp;done)|(simp;omega));have hs:w.heap.size+1≤w1.heap.size:=by(have hs1:=hx.size;simp at hs1;omega));go_ret;exact⟨by rw[H.o];rfl,xE⟩
  have H:=Y4 (show Vg st ow dl 1 client now=24 by simp[Vg,hl]);go_enter Tryz.func160,Tryz.ntmps160;go_wp2_with (go_at_call 163;refine(Qx _ _ _ _ _ _).mono ?_;rintro e w1 ⟨rfl,hy⟩;(first|(have hx:=hx.trans hy)|(have hx:=hy));have hc:=fun i=>hx.cell (p:=⟨w.heap.size,i,none⟩) (by first|(simp;done)|(simp;omega));have hz:=fun i=>hx.frozen (p:=⟨w.heap.size,i,none⟩) (by first|(simp;done)|(simp;omega));have hs:w.heap.size+1≤w1.heap.size:=by(have hs1:=hx.size;simp at hs1;omega));go_ret;exact⟨by rw[H.o];rfl,xE⟩
 ·have H:=Y4 (show Vg st ow dl 2 client now=Q5 st ow dl 1 client now by simp[Vg]);go_enter Tryz.func160,Tryz.ntmps160;go_wp2_with (go_at_call 174;refine(Bb _ _ _ _ _ _ _ _).mono ?_;rintro e w1 ⟨rfl,hy⟩;(first|(have hx:=hx.trans hy)|(have hx:=hy));have hc:=fun i=>hx.cell (p:=⟨w.heap.size,i,none⟩) (by first|(simp;done)|(simp;omega));have hz:=fun i=>hx.frozen (p:=⟨w.heap.size,i,none⟩) (by first|(simp;done)|(simp;omega));have hs:w.heap.size+1≤w1.heap.size:=by(have hs1:=hx.size;simp at hs1;omega));go_ret;exact⟨by rw[H.o];rfl,xE⟩
 ·have H:=Y4 (show Vg st ow dl 3 client now=Q5 st ow dl 1 client now by simp[Vg]);go_enter Tryz.func160,Tryz.ntmps160;go_wp2_with (go_at_call 174;refine(Bb _ _ _ _ _ _ _ _).mono ?_;rintro e w1 ⟨rfl,hy⟩;(first|(have hx:=hx.trans hy)|(have hx:=hy));have hc:=fun i=>hx.cell (p:=⟨w.heap.size,i,none⟩) (by first|(simp;done)|(simp;omega));have hz:=fun i=>hx.frozen (p:=⟨w.heap.size,i,none⟩) (by first|(simp;done)|(simp;omega));have hs:w.heap.size+1≤w1.heap.size:=by(have hs1:=hx.size;simp at hs1;omega));go_ret;exact⟨by rw[H.o];rfl,xE⟩
 ·have H:=Y4 (show Vg st ow dl 4 client now=Q5 st ow dl 1 client now by simp[Vg]);go_enter Tryz.func160,Tryz.ntmps160;go_wp2_with (go_at_call 174;refine(Bb _ _ _ _ _ _ _ _).mono ?_;rintro e w1 ⟨rfl,hy⟩;(first|(have hx:=hx.trans hy)|(have hx:=hy));have hc:=fun i=>hx.cell (p:=⟨w.heap.size,i,none⟩) (by first|(simp;done)|(simp;omega));have hz:=fun i=>hx.frozen (p:=⟨w.heap.size,i,none⟩) (by first|(simp;done)|(simp;omega));have hs:w.heap.size+1≤w1.heap.size:=by(have hs1:=hx.size;simp at hs1;omega));go_ret;exact⟨by rw[H.o];rfl,xE⟩
 ·have H:=Y4 (show Vg st ow dl 5 client now=Q5 st ow dl 2 client now by simp[Vg]);go_enter Tryz.func160,Tryz.ntmps160;go_wp2_with (go_at_call 174;refine(Bb _ _ _ _ _ _ _ _).mono ?_;rintro e w1 ⟨rfl,hy⟩;(first|(have hx:=hx.trans hy)|(have hx:=hy));have hc:=fun i=>hx.cell (p:=⟨w.heap.size,i,none⟩) (by first|(simp;done)|(simp;omega));have hz:=fun i=>hx.frozen (p:=⟨w.heap.size,i,none⟩) (by first|(simp;done)|(simp;omega));have hs:w.heap.size+1≤w1.heap.size:=by(have hs1:=hx.size;simp at hs1;omega));go_ret;exact⟨by rw[H.o];rfl,xE⟩
 ·by_cases hs:st=0
  ·subst hs;have H:=Y4 (show Vg 0 ow dl 6 client now=23 by simp[Vg]);go_enter Tryz.func160,Tryz.ntmps160;go_wp2_with (go_at_call 163;refine(Qx _ _ _ _ _ _).mono ?_;rintro e w1 ⟨rfl,hy⟩;(first|(have hx:=hx.trans hy)|(have hx:=hy));have hc:=fun i=>hx.cell (p:=⟨w.heap.size,i,none⟩) (by first|(simp;done)|(simp;omega));have hz:=fun i=>hx.frozen (p:=⟨w.heap.size,i,none⟩) (by first|(simp;done)|(simp;omega));have hs:w.heap.size+1≤w1.heap.size:=by(have hs1:=hx.size;simp at hs1;omega));go_ret;exact⟨by rw[H.o];rfl,xE⟩
  cases hl:Ke st dl now
  ·have H:=Y4 (show Vg st ow dl 6 client now=0 by simp[Vg,hl,hs]);go_enter Tryz.func160,Tryz.ntmps160;go_wp2_with (go_at_call 163;refine(Qx _ _ _ _ _ _).mono ?_;rintro e w1 ⟨rfl,hy⟩;(first|(have hx:=hx.trans hy)|(have hx:=hy));have hc:=fun i=>hx.cell (p:=⟨w.heap.size,i,none⟩) (by first|(simp;done)|(simp;omega));have hz:=fun i=>hx.frozen (p:=⟨w.heap.size,i,none⟩) (by first|(simp;done)|(simp;omega));have hs:w.heap.size+1≤w1.heap.size:=by(have hs1:=hx.size;simp at hs1;omega));go_ret;exact⟨by rw[H.o];rfl,xE⟩
  have H:=Y4 (show Vg st ow dl 6 client now=26 by simp[Vg,hl,hs]);go_enter Tryz.func160,Tryz.ntmps160;go_wp2_with (go_at_call 163;refine(Qx _ _ _ _ _ _).mono ?_;rintro e w1 ⟨rfl,hy⟩;(first|(have hx:=hx.trans hy)|(have hx:=hy));have hc:=fun i=>hx.cell (p:=⟨w.heap.size,i,none⟩) (by first|(simp;done)|(simp;omega));have hz:=fun i=>hx.frozen (p:=⟨w.heap.size,i,none⟩) (by first|(simp;done)|(simp;omega));have hs:w.heap.size+1≤w1.heap.size:=by(have hs1:=hx.size;simp at hs1;omega));go_ret;exact⟨by rw[H.o];rfl,xE⟩
 ·have H:=Y4 (show Vg st ow dl 7 client now=0 by simp[Vg]);go_enter Tryz.func160,Tryz.ntmps160;go_wp2_with (go_at_call 163;refine(Qx _ _ _ _ _ _).mono ?_;rintro e w1 ⟨rfl,hy⟩;(first|(have hx:=hx.trans hy)|(have hx:=hy));have hc:=fun i=>hx.cell (p:=⟨w.heap.size,i,none⟩) (by first|(simp;done)|(simp;omega));have hz:=fun i=>hx.frozen (p:=⟨w.heap.size,i,none⟩) (by first|(simp;done)|(simp;omega));have hs:w.heap.size+1≤w1.heap.size:=by(have hs1:=hx.size;simp at hs1;omega));go_ret;exact⟨by rw[H.o];rfl,xE⟩
 have h1:¬ op=1:=by omega
 have h2:¬ op=2:=by omega
 have h3:¬ op=3:=by omega
 have h4:¬ op=4:=by omega
 have h5:¬ op=5:=by omega
 have h6:¬ op=6:=by omega
 have h7:¬ op=7:=by omega
 have H:=Y4 (show Vg st ow dl op client now=1 by simp[Vg,h1,h2,h3,h4,h5,h6,h7]);go_enter Tryz.func160,Tryz.ntmps160;go_wp2_with (go_at_call 163;refine(Qx _ _ _ _ _ _).mono ?_;rintro e w1 ⟨rfl,hy⟩;(first|(have hx:=hx.trans hy)|(have hx:=hy));have hc:=fun i=>hx.cell (p:=⟨w.heap.size,i,none⟩) (by first|(simp;done)|(simp;omega));have hz:=fun i=>hx.frozen (p:=⟨w.heap.size,i,none⟩) (by first|(simp;done)|(simp;omega));have hs:w.heap.size+1≤w1.heap.size:=by(have hs1:=hx.size;simp at hs1;omega));go_ret;exact⟨by rw[H.o];rfl,xE⟩
theorem Zow{st dl now:Int}(h:Ke st dl now=true):st=2∨st=1:=by
 simp[Ke]at h;omega
theorem Zu8(st ow dl op client now:Int)(nm:ByteArray)(w:World) :
 Calls Tryz.prog 102 #[.agg #[.int .i64 st,.int .i64 ow,.string nm,.int .i64 dl],.int .i64 op,.int .i64 client,.int .i64 now] w fun e w'=>e=.returned (.int .i64 (Vg st ow dl op client now))∧Ext w w':=by
 rcases Zun op with rfl|rfl|rfl|rfl|rfl|rfl|rfl|h
 case' inr.inr.inr.inr.inr.inr.inr =>
  have h1:¬ op=1:=by omega
  have h2:¬ op=2:=by omega
  have h3:¬ op=3:=by omega
  have h4:¬ op=4:=by omega
  have h5:¬ op=5:=by omega
  have h6:¬ op=6:=by omega
  have h7:¬ op=7:=by omega
  have hl:=True.intro;rcases h with h|h
 case' inr.inr.inr.inr.inr.inr.inr.inr=>have h':¬ op<1:=by omega
 case' inr.inr.inr.inr.inr.inl =>
  by_cases hs:st=0
  try subst hs
 all_goals try cases hl:Ke st dl now
 all_goals try(rcases Zow hl with rfl|rfl<;>(by_cases ho:ow=client;try subst ho))
 all_goals
  go_enter Tryz.func102,Tryz.ntmps102;go_wp2_with (go_at_call 104;refine(Sz _ _ _ _ _ _).mono ?_;rintro e w1 ⟨rfl,hy⟩;(first|(have hx:=hx.trans hy)|(have hx:=hy));have hc:=fun i=>hx.cell (p:=⟨w.heap.size,i,none⟩) (by first|(simp;done)|(simp;omega));have hz:=fun i=>hx.frozen (p:=⟨w.heap.size,i,none⟩) (by first|(simp;done)|(simp;omega));have hs:w.heap.size+1≤w1.heap.size:=by(have hs1:=hx.size;simp at hs1;omega));go_ret;exact⟨by simp[Vg,Q5, *],xE⟩
def E6(n:Nm):List Value:=[.string n.a,.string n.u,.string n.k]
def Wo:List Nm→List Value
 | []=>[]
 | n::r=>E6 n++Wo r
theorem Dp:∀ l:List Nm,(Wo l).length=l.length*3
 | []=>rfl
 | n::r=>by rw[Wo,Zs,Dp r];simp[E6];omega
theorem Ur:∀ a b:List Nm,Wo (a++b)=Wo a++Wo b
 | [],_=>rfl
 | n::r,b=>by simp[Wo,Ur r b]
theorem Ly:∀ {l:List Nm} {j:Nat} {n:Nm},l[j]?=some n→(Wo l)[j*3]?=some (.string n.a)∧(Wo l)[j*3+1]?=some (.string n.u)∧(Wo l)[j*3+2]?=some (.string n.k)
 | m::r,0,n,h=>by
  simp only[Zx,Yd]at h;subst h;simp[Wo,E6]
 | m::r,j+1,n,h=>by
  obtain⟨h1,h2,h3⟩:=Ly (l:=r) (j:=j) (n:=n) (by simpa using h);have hm:(E6 m).length=3:=rfl;have e:∀ k,(Wo (m::r))[(j+1)*3+k]?=(Wo r)[j*3+k]?:=fun k=>by
   rw[Wo,Zd (by omega),hm];congr 1;omega
  refine⟨?_,?_,?_⟩
  ·have:=e 0;simp only[Zl3]at this;rw[this,h1]
  ·rw[e 1,h2]
  rw[e 2,h3]
theorem Rh(l:List Nm):∀ u∈Wo l,u.oneCell'=true:=by
 induction l with
 | nil=>simp[Wo]
 | cons n r ih =>
  intro u hu;rw[Wo,Zj]at hu;rcases hu with hu|hu
  ·simp only[E6,Zg,Zh,Zl8]at hu;rcases hu with rfl|rfl|rfl<;>rfl
  exact ih u hu
def Vo(w:World)(S:Nat→Prop)(v:Value)(l:List Nm):Prop:=Rd w S 3 v l.length (Wo l)
theorem Vo.get{w:World}{S:Nat→Prop}{v:Value}{l:List Nm}(h:Vo w S v l){j:Nat}(hj:j<l.length) :
 ∃ g o c,v=.slice (some ⟨g,o,none⟩) l.length c∧l.length≤c∧c≤maxLen∧S g∧g<w.heap.size∧∀ i n,l[i]?=some n→w.cell? ⟨g,o+i*3,none⟩=some (.string n.a)∧w.cell? ⟨g,o+i*3+1,none⟩=some (.string n.u)∧w.cell? ⟨g,o+i*3+2,none⟩=some (.string n.k):=by
 obtain⟨g,o,c,h1,h2,h3,h4,h5,h6⟩:=h.at_ hj;refine⟨g,o,c,h1,h2,h3,h4,h5,fun i n hi=>?_⟩;obtain⟨q1,q2,q3⟩:=Ly hi;exact⟨h6 _ _ q1,by rw[Zkx];exact h6 _ _ q2,by rw[Zkx];exact h6 _ _ q3⟩
theorem Vo.ext{w w':World}{S:Nat→Prop}{v:Value}{l:List Nm}(h:Vo w S v l)(x:Ext w w'):Vo w' S v l:=Rd.ext h x
theorem Vo.shape{w:World}{S:Nat→Prop}{v:Value}{l:List Nm}(h:Vo w S v l):∃ A c,v=.slice A l.length c:=by
 obtain⟨_,A,c,h,_⟩:=h;exact⟨A,c,h⟩
def Uw(n:Nm):List UInt8:=n.k.data.toList
theorem I0:∀ l:List Nm,srt l=true↔∀ i a b,l[i]?=some a→l[i+1]?=some b→Uw a<Uw b
 | []=>by simp[srt]
 | [x]=>by simp[srt]
 | x::y::r=>by
  rw[srt,Zlp,Zlu,I0 (y::r)];constructor
  ·rintro⟨h1,h2⟩ i a b ha hb;cases i with
   | zero=>simp at ha hb;subst ha hb;exact h1
   | succ i=>exact h2 i a b (by simpa using ha) (by simpa using hb)
  intro h;exact⟨h 0 x y rfl rfl,fun i a b ha hb=>h (i+1) a b (by simpa using ha) (by simpa using hb)⟩
theorem Tb{x s:ByteArray}(h:s.data.toList<x.data.toList):Op.bytesLess x.toList s.toList=false∧(x.toList==s.toList)=false:=by
 rw[Go.Proofs.bytesLess_eq,Zli,Zli];exact⟨by simpa using List.le_of_lt h,by simp;intro e;rw[e]at h;exact Zk0 _ h⟩
theorem O3{x s:ByteArray}(h:¬ s.data.toList<x.data.toList):(Op.bytesLess x.toList s.toList||x.toList==s.toList)=true:=by
 rw[Go.Proofs.bytesLess_eq,Zli,Zli];by_cases e:x.data.toList=s.data.toList
 ·simp[e]
 have:=Gd (List.not_lt.1 h) e;simp[this]
theorem N2{S:Nat→Prop}(v:Value)(l:List Nm)(w:World)(hn:Vo w S v l) :
 Calls Tryz.prog 155 #[v] w fun e w'=>e=.returned (.bool (srt l))∧Ext w w':=by
 obtain⟨A,c,rfl⟩:=hn.shape;have hlm:=hn.len;unfold maxLen at hlm;have Hn:=Y4 hn;clear hn;go_enter Tryz.func155,Tryz.ntmps155;go_wp2_with fail;go_loopw [3] (fun o wr=>∃ i:Nat,1≤i∧o=.int .i64 (i:Int)∧(∀ j a b,j+1<i→l[j]?=some a→l[j+1]?=some b→Uw a<Uw b)∧(i=1∨i≤l.length)∧Ext w wr) (fun o _=>l.length+1-(intOf o).toNat);case atStart=>exact⟨1,Yn _,rfl,fun j a b h=>by omega,.inl rfl,Yl _⟩
 obtain⟨i,hi,rfl,hso,hil,hx⟩:=hrel;have Hso:=Y4 hso;have Hx:=Y4 hx;clear hso hx;by_cases hlt:i<l.length
 ·have hd:decide ((i:Int)<(l.length:Int))=true:=by simpa using hlt
  obtain⟨g,o,c',hv,hc1,hc2,_,hg,hcell⟩:=(Hn.o.ext Hx.o).get (j:=i) hlt;simp only[Ye,Zls]at hv;obtain⟨rfl,rfl⟩:=hv;obtain⟨a,ha⟩:∃ a,l[i-1]?=some a:=⟨l[i-1],by simp⟩;obtain⟨b,hb⟩:∃ b,l[i]?=some b:=⟨l[i],by simp[hlt]⟩;have c1:=(hcell _ _ ha).2.2;have c2:=(hcell _ _ hb).2.2;obtain⟨p,rfl⟩:∃ p,i=p+1:=⟨i-1,by omega⟩;simp only[Zkj]at ha c1;have q0:(0:Int)≤(p:Int):=by omega
  have q1:(p:Int)<(l.length:Int):=by omega
  have q2:(0:Int)≤((p+1:Nat):Int):=by omega
  have q3:((p+1:Nat):Int)<(l.length:Int):=by omega
  have q4:IntKind.i64.wrap (((p+1:Nat):Int)-1)=(p:Int):=by rw[Yp _ (by omega)];omega
  have q5:c≤9223372036854775807:=by unfold maxLen at hc2;omega
  have Ha:=Y4 ha;have Hb:=Y4 hb;clear hcell ha hb;by_cases hk:Uw a<Uw b
  ·obtain⟨f1,f2⟩:=Tb hk;have Hk:=Y4 hk;clear hk;go_wp2_with fail;go_region;go_wp2_with fail;go_roundw;case rel =>
    refine⟨p+2,by omega,by go_num,fun j x y hj hx hy=>?_,by omega,Hx.o.drew⟩;by_cases hj2:j=p
    ·subst hj2;rw[Ha.o]at hx;rw[Hb.o]at hy;simp only[Yd]at hx hy;subst hx hy;exact Hk.o
    exact Hso.o j x y (by omega) hx hy
   case measure=>simp[intOf];omega
  have f1:=O3 hk;have Hno:=Y4 (show srt l=false from by
   rw[← Bool.not_eq_true,I0];intro h;exact hk (h p a b Ha.o Hb.o))
  clear hk;go_wp2_with fail;go_region;go_wp2_with fail;go_ret;exact⟨by rw[Hno.o];rfl,Hx.o.drew⟩
 have hd:decide ((i:Int)<(l.length:Int))=false:=by simp;omega
 have Hall:=Y4 (show srt l=true from(I0 l).2 fun j a b ha hb=>Hso.o j a b (by have:=(Zr.1 hb).1;omega) ha hb);go_wp2_with fail;go_ret;exact⟨by rw[Hall.o];rfl,Hx.o⟩
def Q4(n:Nm):Bool:=decide (1≤n.a.size)&&decide (n.a.size≤63)
structure Pl(cl client op ttl now:Int)(ns:List Nm):Prop where
 c0:0≤client
 c1:client<cl
 o0:1≤op
 o1:op≤7
 n0:0≤now
 n1:now≤1073741824
 t1:Wx op=true→1≤ttl∧ttl≤1073741824
 t0:Wx op=false→ttl=0
 l0:1≤ns.length
 l1:ns.length≤16
 q:op=7→ns.length≤1
 srt:srt ns=true
 good:ns.all Q4=true
instance (cl client op ttl now:Int) (ns:List Nm):Decidable (Pl cl client op ttl now ns) :=
 decidable_of_iff (0≤client∧client<cl∧1≤op∧op≤7∧0≤now∧now≤1073741824∧(Wx op=true→1≤ttl∧ttl≤1073741824)∧(Wx op=false→ttl=0)∧1≤ns.length∧ns.length≤16∧(op=7→ns.length≤1)∧srt ns=true∧ns.all Q4=true)
  ⟨fun⟨a,b,c,d,e,f,g,h,i,j,k,l,m⟩=>⟨a,b,c,d,e,f,g,h,i,j,k,l,m⟩,fun⟨a,b,c,d,e,f,g,h,i,j,k,l,m⟩=>⟨a,b,c,d,e,f,g,h,i,j,k,l,m⟩⟩
def Q9(cl client op ttl now:Int)(ns:List Nm):Bool:=decide (Pl cl client op ttl now ns)
structure Ac where
 e:Int
 at_:Int
 nm:ByteArray
 rc:Rc
 tick:Int
def rcV(r:Rc):Value:=.agg #[.int .i64 r.st,.int .i64 r.ow,.string r.nm,.int .i64 r.dl]
def Wm(r:Ac):Value:=.agg #[.int .i64 r.e,.int .i64 r.at_,.string r.nm,.int .i64 r.rc.st,.int .i64 r.rc.ow,.string r.rc.nm,.int .i64 r.rc.dl,.int .i64 r.tick]
def Zww(cap op client now count:Int)(r:Rc):Int :=
 if Vg r.st r.ow r.dl op client now=0∧0<Xn r.st op∧cap≤count then 7 else Vg r.st r.ow r.dl op client now
def Q8(op count:Int)(r:Rc):Int:=if 0<Xn r.st op then count+1 else count
def Vr(cap op client now:Int):Nat→Int→List (Nm×Rc)→Option (Int×Nat×ByteArray)
 | _,_,[]=>none
 | i,count,p::l=>if Zww cap op client now count p.2=0 then Vr cap op client now (i+1) (Q8 op count p.2) l else some (Zww cap op client now count p.2,i,p.1.a)
def Wn(cap op client ttl now count:Int)(ps:List (Nm×Rc)):Ac :=
 if Wx op=true∧1073741824-now<ttl then⟨8,-1,⟨#[]⟩,default,now⟩else
 match Vr cap op client now 0 count ps with
 | some (e,i,n)=>⟨e,i,n,default,now⟩
 | none=>⟨0,-1,⟨#[]⟩,match ps with | []=>default|p::_=>if op=7∧Ke p.2.st p.2.dl now=true then p.2 else default,now⟩
def V0(op client dl:Int)(n:Nm)(r:Rc):Rc:=⟨Jh r.st op,J3 r.ow op client,J2 r.nm op n.a,Jl r.dl op dl⟩
def Kh(op client dl:Int)(l:List Kp)(ps:List (Nm×Rc)):List Kp:=ps.foldl (fun l p=>Jn l p.1.k (V0 op client dl p.1 p.2)) l
def V8(l:List Kp)(ns:List Nm):List (Nm×Rc):=ns.map fun n=>(n,Wq l n.k)
def doR(cl cap:Int)(l:List Kp)(client op ttl now:Int)(ns:List Nm):Ac :=
 if Q9 cl client op ttl now ns=true then Wn cap op client ttl now l.length (V8 l ns)else⟨1,-1,⟨#[]⟩,default,0⟩
def doL(cl cap:Int)(l:List Kp)(client op ttl now:Int)(ns:List Nm):List Kp :=
 if Q9 cl client op ttl now ns=true∧(Wn cap op client ttl now l.length (V8 l ns)).e=0 then Kh op client (now+ttl) l (V8 l ns)else l
theorem Zt1(l:List Kp)(ns:List Nm):(V8 l ns).length=ns.length:=by simp[V8]
theorem Ua{α:Type}{l:List α}{i:Nat}{x:α}(h:l[i]?=some x):l.drop i=x::l.drop (i+1):=by
 obtain⟨hi,rfl⟩:=Zr.1 h;exact Zjp hi
theorem take_at{α:Type}{l:List α}{i:Nat}{x:α}(h:l[i]?=some x):l.take (i+1)=l.take i++[x]:=by rw[Za,h];rfl
def Ks(op:Int)(count:Int)(ps:List (Nm×Rc)):Int:=ps.foldl (fun c p=>Q8 op c p.2) count
theorem Zyl(op count:Int)(ps:List (Nm×Rc)):count≤Ks op count ps∧Ks op count ps≤count+ps.length:=by
 induction ps generalizing count with
 | nil=>simp[Ks]
 | cons p ps ih =>
  have:=ih (Q8 op count p.2);have e:Ks op count (p::ps)=Ks op (Q8 op count p.2) ps:=rfl;have hn:Q8 op count p.2=count∨Q8 op count p.2=count+1:=by unfold Q8;split<;>simp
  rw[e];simp only[Zl];omega
theorem P3(op count:Int)(ps:List (Nm×Rc))(p:Nm×Rc):Ks op count (ps++[p])=Q8 op (Ks op count ps) p.2:=by simp[Ks,Zko]
theorem Zsi{op client d d':Int}(h:Wx op=true→d=d')(n:Nm)(r:Rc):V0 op client d n r=V0 op client d' n r:=by
 unfold V0;have:Jl r.dl op d=Jl r.dl op d':=by
  unfold Jl;by_cases h1:op=1
  ·rw[Zm4 h1,Zm4 h1,h (by simp[Wx,h1])]
  rw[Zm2 h1,Zm2 h1];by_cases h2:op=2
  ·rw[Zm4 h2,Zm4 h2]
  rw[Zm2 h2,Zm2 h2];by_cases h3:op=3
  ·rw[Zm4 h3,Zm4 h3,h (by simp[Wx,h3])]
  rw[Zm2 h3,Zm2 h3]
 rw[this]
theorem Ds(st op:Int):Xn st op=1∨Xn st op=0∨Xn st op = -1:=by by_cases h1:op=1<;>by_cases h2:st=0<;>by_cases h3:op=4∨op=5∨op=6<;>simp[Xn,h1,h2,h3]
structure V1(cap op client now count:Int)(ps:List (Nm×Rc))(i:Nat)(c:Int):Prop where
 le:i≤ps.length
 cnt:c=Ks op count (ps.take i)
 go:Vr cap op client now 0 count ps=Vr cap op client now i c (ps.drop i)
theorem V1.start(cap op client now count:Int)(ps:List (Nm×Rc)):V1 cap op client now count ps 0 count:=⟨Zlx _,rfl,rfl⟩
theorem V1.bd{cap op client now count c:Int}{ps:List (Nm×Rc)}{i:Nat}(h:V1 cap op client now count ps i c):count≤c∧c≤count+i:=by
 have:=Zyl op count (ps.take i);rw[← h.cnt,Zp]at this;omega
theorem V1.next{cap op client now count c:Int}{ps:List (Nm×Rc)}{i:Nat}{p:Nm×Rc}(h:V1 cap op client now count ps i c)(hp:ps[i]?=some p)(h0:Zww cap op client now c p.2=0) :
 V1 cap op client now count ps (i+1) (Q8 op c p.2):=by
 have hi:=(Zr.1 hp).1;refine⟨hi,?_,?_⟩
 ·rw[take_at hp,P3,← h.cnt]
 rw[h.go,Ua hp,Vr,Zm4 h0]
theorem V1.stop{cap op client now count c:Int}{ps:List (Nm×Rc)}{i:Nat}{p:Nm×Rc}(h:V1 cap op client now count ps i c)(hp:ps[i]?=some p)(h0:Zww cap op client now c p.2≠0) :
 Vr cap op client now 0 count ps=some (Zww cap op client now c p.2,i,p.1.a):=by
 rw[h.go,Ua hp,Vr,Zm2 h0]
theorem V1.done{cap op client now count c:Int}{ps:List (Nm×Rc)}(h:V1 cap op client now count ps ps.length c):Vr cap op client now 0 count ps=none:=by
 rw[h.go,List.drop_length,Vr]
end Go.Proofs.YtnbclgbicnpmnaaGreat
