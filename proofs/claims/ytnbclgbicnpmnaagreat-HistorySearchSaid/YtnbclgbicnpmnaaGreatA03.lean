/- Lemmas of this claim: Record, Record2, Names, Judge. Conditions: as named. -/
import Derived.Deep.RegionHeld3
import Derived.Laws.BitsAllLaws
import Derived.Laws.DeepNot64
import Derived.Laws.IdiomCopy
import Derived.Sort.Walk0
import Derived.WalkSmall
import Derived.Test.YtnbclgbicnpmnaaGreatA02
namespace Go.Proofs.YtnbclgbicnpmnaaGreat
open Go.RowKit Go.Sort
set_option maxHeartbeats 0
set_option maxRecDepth 100000
set_option linter.all false
def Xl(st op:Int):Int:=if op=1 then(if st=0 then 1 else 0)else if op=4∨op=5∨op=6 then(if st=0 then 0 else -1)else 0
theorem Ac(op:Int):op=1∨op=4∨op=5∨op=6∨(op≠1∧op≠4∧op≠5∧op≠6):=by omega
theorem Zpe(op:Int):op=1∨op=2∨op=3∨op=4∨op=5∨op=6∨op=7∨(op<1∨7<op):=by omega
theorem Sv(st ow dl op:Int)(nm:ByteArray)(w:World) :
 Calls Tryz.prog 161 #[.agg #[.int .i64 st,.int .i64 ow,.string nm,.int .i64 dl],.int .i64 op] w fun e w'=>e=.returned (.int .i64 (Xl st op))∧Ext w w':=by
 by_cases hs:st=0
 ·subst hs;rcases Ac op with rfl|rfl|rfl|rfl|h
  ·have H:=Ya (show Xl 0 1=1 by simp[Xl]);go_enter Tryz.func161,Tryz.ntmps161;go_wp2;go_ret;exact⟨by rw[H.o];rfl,xE⟩
  ·have H:=Ya (show Xl 0 4=0 by simp[Xl]);go_enter Tryz.func161,Tryz.ntmps161;go_wp2;go_ret;exact⟨by rw[H.o];rfl,xE⟩
  ·have H:=Ya (show Xl 0 5=0 by simp[Xl]);go_enter Tryz.func161,Tryz.ntmps161;go_wp2;go_ret;exact⟨by rw[H.o];rfl,xE⟩
  ·have H:=Ya (show Xl 0 6=0 by simp[Xl]);go_enter Tryz.func161,Tryz.ntmps161;go_wp2;go_ret;exact⟨by rw[H.o];rfl,xE⟩
  have H:=Ya (show Xl 0 op=0 by simp[Xl,h.1,h.2.1,h.2.2.1,h.2.2.2]);obtain⟨h1,h2,h3,h4⟩:=h;go_enter Tryz.func161,Tryz.ntmps161;go_wp2;go_ret;exact⟨by rw[H.o];rfl,xE⟩
 rcases Ac op with rfl|rfl|rfl|rfl|h
 ·have H:=Ya (show Xl st 1=0 by simp[Xl,hs]);go_enter Tryz.func161,Tryz.ntmps161;go_wp2;go_ret;exact⟨by rw[H.o];rfl,xE⟩
 ·have H:=Ya (show Xl st 4 = -1 by simp[Xl,hs]);go_enter Tryz.func161,Tryz.ntmps161;go_wp2;go_ret;exact⟨by rw[H.o];rfl,xE⟩
 ·have H:=Ya (show Xl st 5 = -1 by simp[Xl,hs]);go_enter Tryz.func161,Tryz.ntmps161;go_wp2;go_ret;exact⟨by rw[H.o];rfl,xE⟩
 ·have H:=Ya (show Xl st 6 = -1 by simp[Xl,hs]);go_enter Tryz.func161,Tryz.ntmps161;go_wp2;go_ret;exact⟨by rw[H.o];rfl,xE⟩
 have H:=Ya (show Xl st op=0 by simp[Xl,h.1,h.2.1,h.2.2.1,h.2.2.2]);obtain⟨h1,h2,h3,h4⟩:=h;go_enter Tryz.func161,Tryz.ntmps161;go_wp2;go_ret;exact⟨by rw[H.o];rfl,xE⟩
theorem Ow(st ow dl op:Int)(nm:ByteArray)(w:World) :
 Calls Tryz.prog 103 #[.agg #[.int .i64 st,.int .i64 ow,.string nm,.int .i64 dl],.int .i64 op] w fun e w'=>e=.returned (.int .i64 (Xl st op))∧Ext w w':=by
 by_cases hs:st=0
 ·subst hs;rcases Ac op with rfl|rfl|rfl|rfl|h
  ·have H:=Ya (show Xl 0 1=1 by simp[Xl]);go_enter Tryz.func103,Tryz.ntmps103;go_wp2;go_ret;exact⟨by rw[H.o];rfl,xE⟩
  ·have H:=Ya (show Xl 0 4=0 by simp[Xl]);go_enter Tryz.func103,Tryz.ntmps103;go_wp2;go_ret;exact⟨by rw[H.o];rfl,xE⟩
  ·have H:=Ya (show Xl 0 5=0 by simp[Xl]);go_enter Tryz.func103,Tryz.ntmps103;go_wp2;go_ret;exact⟨by rw[H.o];rfl,xE⟩
  ·have H:=Ya (show Xl 0 6=0 by simp[Xl]);go_enter Tryz.func103,Tryz.ntmps103;go_wp2;go_ret;exact⟨by rw[H.o];rfl,xE⟩
  have H:=Ya (show Xl 0 op=0 by simp[Xl,h.1,h.2.1,h.2.2.1,h.2.2.2]);obtain⟨h1,h2,h3,h4⟩:=h;go_enter Tryz.func103,Tryz.ntmps103;go_wp2;go_ret;exact⟨by rw[H.o];rfl,xE⟩
 rcases Ac op with rfl|rfl|rfl|rfl|h
 ·have H:=Ya (show Xl st 1=0 by simp[Xl,hs]);go_enter Tryz.func103,Tryz.ntmps103;go_wp2;go_ret;exact⟨by rw[H.o];rfl,xE⟩
 ·have H:=Ya (show Xl st 4 = -1 by simp[Xl,hs]);go_enter Tryz.func103,Tryz.ntmps103;go_wp2;go_ret;exact⟨by rw[H.o];rfl,xE⟩
 ·have H:=Ya (show Xl st 5 = -1 by simp[Xl,hs]);go_enter Tryz.func103,Tryz.ntmps103;go_wp2;go_ret;exact⟨by rw[H.o];rfl,xE⟩
 ·have H:=Ya (show Xl st 6 = -1 by simp[Xl,hs]);go_enter Tryz.func103,Tryz.ntmps103;go_wp2;go_ret;exact⟨by rw[H.o];rfl,xE⟩
 have H:=Ya (show Xl st op=0 by simp[Xl,h.1,h.2.1,h.2.2.1,h.2.2.2]);obtain⟨h1,h2,h3,h4⟩:=h;go_enter Tryz.func103,Tryz.ntmps103;go_wp2;go_ret;exact⟨by rw[H.o];rfl,xE⟩
def Kx(st op:Int):Int:=if op=1 then 1 else if op=2 then 2 else if op=4∨op=5∨op=6 then 0 else st
def Ky(ow op client:Int):Int:=if op=1 then client else if op=4∨op=5∨op=6 then 0 else ow
def Kz(nm:ByteArray)(op:Int)(name:ByteArray):ByteArray:=if op=1 then name else if op=4∨op=5∨op=6 then⟨#[]⟩else nm
def Jb(dl op deadline:Int):Int:=if op=1 then deadline else if op=2 then 0 else if op=3 then deadline else if op=4∨op=5∨op=6 then 0 else dl
theorem Rp(st ow dl op client deadline:Int)(nm name:ByteArray)(w:World) :
 Calls Tryz.prog 162 #[.agg #[.int .i64 st,.int .i64 ow,.string nm,.int .i64 dl],.int .i64 op,.int .i64 client,.string name,.int .i64 deadline] w fun e w' =>
  e=.returned (.agg #[.int .i64 (Kx st op),.int .i64 (Ky ow op client),.string (Kz nm op name),.int .i64 (Jb dl op deadline)])∧Ext w w':=by
 rcases Zpe op with rfl|rfl|rfl|rfl|rfl|rfl|rfl|h
 ·go_enter Tryz.func162,Tryz.ntmps162;go_wp2;exact Yu (v:=.agg #[.int .i64 (Kx st 1),.int .i64 (Ky ow 1 client),.string (Kz nm 1 name),.int .i64 (Jb dl 1 deadline)]) (by simp[results,Tryz.results162,go_sem,Kx,Ky,Kz,Jb]) rfl ⟨rfl,xE⟩
 ·go_enter Tryz.func162,Tryz.ntmps162;go_wp2;exact Yu (v:=.agg #[.int .i64 (Kx st 2),.int .i64 (Ky ow 2 client),.string (Kz nm 2 name),.int .i64 (Jb dl 2 deadline)]) (by simp[results,Tryz.results162,go_sem,Kx,Ky,Kz,Jb]) rfl ⟨rfl,xE⟩
 ·go_enter Tryz.func162,Tryz.ntmps162;go_wp2;exact Yu (v:=.agg #[.int .i64 (Kx st 3),.int .i64 (Ky ow 3 client),.string (Kz nm 3 name),.int .i64 (Jb dl 3 deadline)]) (by simp[results,Tryz.results162,go_sem,Kx,Ky,Kz,Jb]) rfl ⟨rfl,xE⟩
 ·go_enter Tryz.func162,Tryz.ntmps162;go_wp2;exact Yu (v:=.agg #[.int .i64 (Kx st 4),.int .i64 (Ky ow 4 client),.string (Kz nm 4 name),.int .i64 (Jb dl 4 deadline)]) (by simp[results,Tryz.results162,go_sem,Kx,Ky,Kz,Jb]) rfl ⟨rfl,xE⟩
 ·go_enter Tryz.func162,Tryz.ntmps162;go_wp2;exact Yu (v:=.agg #[.int .i64 (Kx st 5),.int .i64 (Ky ow 5 client),.string (Kz nm 5 name),.int .i64 (Jb dl 5 deadline)]) (by simp[results,Tryz.results162,go_sem,Kx,Ky,Kz,Jb]) rfl ⟨rfl,xE⟩
 ·go_enter Tryz.func162,Tryz.ntmps162;go_wp2;exact Yu (v:=.agg #[.int .i64 (Kx st 6),.int .i64 (Ky ow 6 client),.string (Kz nm 6 name),.int .i64 (Jb dl 6 deadline)]) (by simp[results,Tryz.results162,go_sem,Kx,Ky,Kz,Jb]) rfl ⟨rfl,xE⟩
 ·go_enter Tryz.func162,Tryz.ntmps162;go_wp2;exact Yu (v:=.agg #[.int .i64 (Kx st 7),.int .i64 (Ky ow 7 client),.string (Kz nm 7 name),.int .i64 (Jb dl 7 deadline)]) (by simp[results,Tryz.results162,go_sem,Kx,Ky,Kz,Jb]) rfl ⟨rfl,xE⟩
 have h1:¬ op=1:=by omega
 have h2:¬ op=2:=by omega
 have h3:¬ op=3:=by omega
 have h4:¬ op=4:=by omega
 have h5:¬ op=5:=by omega
 have h6:¬ op=6:=by omega
 go_enter Tryz.func162,Tryz.ntmps162;go_wp2;exact Yu (v:=.agg #[.int .i64 (Kx st op),.int .i64 (Ky ow op client),.string (Kz nm op name),.int .i64 (Jb dl op deadline)]) (by simp[results,Tryz.results162,go_sem,Kx,Ky,Kz,Jb,h1,h2,h3,h4,h5,h6]) rfl ⟨rfl,xE⟩
theorem Dw(st ow dl op client deadline:Int)(nm name:ByteArray)(w:World) :
 Calls Tryz.prog 74 #[.agg #[.int .i64 st,.int .i64 ow,.string nm,.int .i64 dl],.int .i64 op,.int .i64 client,.string name,.int .i64 deadline] w fun e w' =>
  e=.returned (.agg #[.int .i64 (Kx st op),.int .i64 (Ky ow op client),.string (Kz nm op name),.int .i64 (Jb dl op deadline)])∧Ext w w':=by
 rcases Zpe op with rfl|rfl|rfl|rfl|rfl|rfl|rfl|h
 ·go_enter Tryz.func74,Tryz.ntmps74;go_wp2;exact Yu (v:=.agg #[.int .i64 (Kx st 1),.int .i64 (Ky ow 1 client),.string (Kz nm 1 name),.int .i64 (Jb dl 1 deadline)]) (by simp[results,Tryz.results74,go_sem,Kx,Ky,Kz,Jb]) rfl ⟨rfl,xE⟩
 ·go_enter Tryz.func74,Tryz.ntmps74;go_wp2;exact Yu (v:=.agg #[.int .i64 (Kx st 2),.int .i64 (Ky ow 2 client),.string (Kz nm 2 name),.int .i64 (Jb dl 2 deadline)]) (by simp[results,Tryz.results74,go_sem,Kx,Ky,Kz,Jb]) rfl ⟨rfl,xE⟩
 ·go_enter Tryz.func74,Tryz.ntmps74;go_wp2;exact Yu (v:=.agg #[.int .i64 (Kx st 3),.int .i64 (Ky ow 3 client),.string (Kz nm 3 name),.int .i64 (Jb dl 3 deadline)]) (by simp[results,Tryz.results74,go_sem,Kx,Ky,Kz,Jb]) rfl ⟨rfl,xE⟩
 ·go_enter Tryz.func74,Tryz.ntmps74;go_wp2;exact Yu (v:=.agg #[.int .i64 (Kx st 4),.int .i64 (Ky ow 4 client),.string (Kz nm 4 name),.int .i64 (Jb dl 4 deadline)]) (by simp[results,Tryz.results74,go_sem,Kx,Ky,Kz,Jb]) rfl ⟨rfl,xE⟩
 ·go_enter Tryz.func74,Tryz.ntmps74;go_wp2;exact Yu (v:=.agg #[.int .i64 (Kx st 5),.int .i64 (Ky ow 5 client),.string (Kz nm 5 name),.int .i64 (Jb dl 5 deadline)]) (by simp[results,Tryz.results74,go_sem,Kx,Ky,Kz,Jb]) rfl ⟨rfl,xE⟩
 ·go_enter Tryz.func74,Tryz.ntmps74;go_wp2;exact Yu (v:=.agg #[.int .i64 (Kx st 6),.int .i64 (Ky ow 6 client),.string (Kz nm 6 name),.int .i64 (Jb dl 6 deadline)]) (by simp[results,Tryz.results74,go_sem,Kx,Ky,Kz,Jb]) rfl ⟨rfl,xE⟩
 ·go_enter Tryz.func74,Tryz.ntmps74;go_wp2;exact Yu (v:=.agg #[.int .i64 (Kx st 7),.int .i64 (Ky ow 7 client),.string (Kz nm 7 name),.int .i64 (Jb dl 7 deadline)]) (by simp[results,Tryz.results74,go_sem,Kx,Ky,Kz,Jb]) rfl ⟨rfl,xE⟩
 have h1:¬ op=1:=by omega
 have h2:¬ op=2:=by omega
 have h3:¬ op=3:=by omega
 have h4:¬ op=4:=by omega
 have h5:¬ op=5:=by omega
 have h6:¬ op=6:=by omega
 go_enter Tryz.func74,Tryz.ntmps74;go_wp2;exact Yu (v:=.agg #[.int .i64 (Kx st op),.int .i64 (Ky ow op client),.string (Kz nm op name),.int .i64 (Jb dl op deadline)]) (by simp[results,Tryz.results74,go_sem,Kx,Ky,Kz,Jb,h1,h2,h3,h4,h5,h6]) rfl ⟨rfl,xE⟩
def Jt(st ow dl state client now:Int):Int :=
 if Us st dl now=false then 23 else if ow=client then(if st=state then 0 else 26)else 25
def V9(st ow dl op client now:Int):Int :=
 if op=1 then(if Us st dl now=true then 24 else 0)
 else if op=2∨op=3∨op=4 then Jt st ow dl 1 client now
 else if op=5 then Jt st ow dl 2 client now
 else if op=6 then(if st=0 then 23 else if Us st dl now=true then 26 else 0)
 else if op=7 then 0 else 1
theorem Bc(st ow dl state client now:Int)(nm:ByteArray)(w:World) :
 Calls Tryz.prog 174 #[.agg #[.int .i64 st,.int .i64 ow,.string nm,.int .i64 dl],.int .i64 state,.int .i64 client,.int .i64 now] w fun e w'=>e=.returned (.int .i64 (Jt st ow dl state client now))∧Ext w w':=by
 cases hl:Us st dl now
 ·have H:=Ya (show Jt st ow dl state client now=23 by simp[Jt,hl]);go_enter Tryz.func174,Tryz.ntmps174;go_wp2_with (go_at_call 163;refine(Qw _ _ _ _ _ _).mono ?_;rintro e w1 ⟨rfl,hy⟩;(first|(have hx:=hx.trans hy)|(have hx:=hy));have hc:=fun i=>hx.cell (p:=⟨w.heap.size,i,none⟩) (by first|(simp;done)|(simp;omega));have hz:=fun i=>hx.frozen (p:=⟨w.heap.size,i,none⟩) (by first|(simp;done)|(simp;omega));have hs:w.heap.size+1≤w1.heap.size:=by(have hs1:=hx.size;simp at hs1;omega));go_ret;exact⟨by rw[H.o];rfl,xE⟩
 by_cases ho:ow=client
 ·subst ho;by_cases hs:st=state
  ·subst hs;have H:=Ya (show Jt st ow dl st ow now=0 by simp[Jt,hl]);go_enter Tryz.func174,Tryz.ntmps174;go_wp2_with (go_at_call 163;refine(Qw _ _ _ _ _ _).mono ?_;rintro e w1 ⟨rfl,hy⟩;(first|(have hx:=hx.trans hy)|(have hx:=hy));have hc:=fun i=>hx.cell (p:=⟨w.heap.size,i,none⟩) (by first|(simp;done)|(simp;omega));have hz:=fun i=>hx.frozen (p:=⟨w.heap.size,i,none⟩) (by first|(simp;done)|(simp;omega));have hs:w.heap.size+1≤w1.heap.size:=by(have hs1:=hx.size;simp at hs1;omega));go_ret;exact⟨by rw[H.o];rfl,xE⟩
  have H:=Ya (show Jt st ow dl state ow now=26 by simp[Jt,hl,hs]);go_enter Tryz.func174,Tryz.ntmps174;go_wp2_with (go_at_call 163;refine(Qw _ _ _ _ _ _).mono ?_;rintro e w1 ⟨rfl,hy⟩;(first|(have hx:=hx.trans hy)|(have hx:=hy));have hc:=fun i=>hx.cell (p:=⟨w.heap.size,i,none⟩) (by first|(simp;done)|(simp;omega));have hz:=fun i=>hx.frozen (p:=⟨w.heap.size,i,none⟩) (by first|(simp;done)|(simp;omega));have hs:w.heap.size+1≤w1.heap.size:=by(have hs1:=hx.size;simp at hs1;omega));go_ret;exact⟨by rw[H.o];rfl,xE⟩
 have H:=Ya (show Jt st ow dl state client now=25 by simp[Jt,hl,ho]);go_enter Tryz.func174,Tryz.ntmps174;go_wp2_with (go_at_call 163;refine(Qw _ _ _ _ _ _).mono ?_;rintro e w1 ⟨rfl,hy⟩;(first|(have hx:=hx.trans hy)|(have hx:=hy));have hc:=fun i=>hx.cell (p:=⟨w.heap.size,i,none⟩) (by first|(simp;done)|(simp;omega));have hz:=fun i=>hx.frozen (p:=⟨w.heap.size,i,none⟩) (by first|(simp;done)|(simp;omega));have hs:w.heap.size+1≤w1.heap.size:=by(have hs1:=hx.size;simp at hs1;omega));go_ret;exact⟨by rw[H.o];rfl,xE⟩
theorem Zts(op:Int):op=1∨op=2∨op=3∨op=4∨op=5∨op=6∨op=7∨(op<1∨7<op):=by omega
theorem Zy0(st ow dl op client now:Int)(nm:ByteArray)(w:World) :
 Calls Tryz.prog 160 #[.agg #[.int .i64 st,.int .i64 ow,.string nm,.int .i64 dl],.int .i64 op,.int .i64 client,.int .i64 now] w fun e w'=>e=.returned (.int .i64 (V9 st ow dl op client now))∧Ext w w':=by
 rcases Zts op with rfl|rfl|rfl|rfl|rfl|rfl|rfl|h
 ·cases hl:Us st dl now
  ·have H:=Ya (show V9 st ow dl 1 client now=0 by simp[V9,hl]);go_enter Tryz.func160,Tryz.ntmps160;go_wp2_with (go_at_call 163;refine(Qw _ _ _ _ _ _).mono ?_;rintro e w1 ⟨rfl,hy⟩;(first|(have hx:=hx.trans hy)|(have hx:=hy));have hc:=fun i=>hx.cell (p:=⟨w.heap.size,i,none⟩) (by first|(simp;done)|(simp;omega));have hz:=fun i=>hx.frozen (p:=⟨w.heap.size,i,none⟩) (by first|(simp;done)|(simp;omega));have hs:w.heap.size+1≤w1.heap.size:=by(have hs1:=hx.size;simp at hs1;omega));go_ret;exact⟨by rw[H.o];rfl,xE⟩
  have H:=Ya (show V9 st ow dl 1 client now=24 by simp[V9,hl]);go_enter Tryz.func160,Tryz.ntmps160;go_wp2_with (go_at_call 163;refine(Qw _ _ _ _ _ _).mono ?_;rintro e w1 ⟨rfl,hy⟩;(first|(have hx:=hx.trans hy)|(have hx:=hy));have hc:=fun i=>hx.cell (p:=⟨w.heap.size,i,none⟩) (by first|(simp;done)|(simp;omega));have hz:=fun i=>hx.frozen (p:=⟨w.heap.size,i,none⟩) (by first|(simp;done)|(simp;omega));have hs:w.heap.size+1≤w1.heap.size:=by(have hs1:=hx.size;simp at hs1;omega));go_ret;exact⟨by rw[H.o];rfl,xE⟩
 ·have H:=Ya (show V9 st ow dl 2 client now=Jt st ow dl 1 client now by simp[V9]);go_enter Tryz.func160,Tryz.ntmps160;go_wp2_with (go_at_call 174;refine(Bc _ _ _ _ _ _ _ _).mono ?_;rintro e w1 ⟨rfl,hy⟩;(first|(have hx:=hx.trans hy)|(have hx:=hy));have hc:=fun i=>hx.cell (p:=⟨w.heap.size,i,none⟩) (by first|(simp;done)|(simp;omega));have hz:=fun i=>hx.frozen (p:=⟨w.heap.size,i,none⟩) (by first|(simp;done)|(simp;omega));have hs:w.heap.size+1≤w1.heap.size:=by(have hs1:=hx.size;simp at hs1;omega));go_ret;exact⟨by rw[H.o];rfl,xE⟩
 ·have H:=Ya (show V9 st ow dl 3 client now=Jt st ow dl 1 client now by simp[V9]);go_enter Tryz.func160,Tryz.ntmps160;go_wp2_with (go_at_call 174;refine(Bc _ _ _ _ _ _ _ _).mono ?_;rintro e w1 ⟨rfl,hy⟩;(first|(have hx:=hx.trans hy)|(have hx:=hy));have hc:=fun i=>hx.cell (p:=⟨w.heap.size,i,none⟩) (by first|(simp;done)|(simp;omega));have hz:=fun i=>hx.frozen (p:=⟨w.heap.size,i,none⟩) (by first|(simp;done)|(simp;omega));have hs:w.heap.size+1≤w1.heap.size:=by(have hs1:=hx.size;simp at hs1;omega));go_ret;exact⟨by rw[H.o];rfl,xE⟩
 ·have H:=Ya (show V9 st ow dl 4 client now=Jt st ow dl 1 client now by simp[V9]);go_enter Tryz.func160,Tryz.ntmps160;go_wp2_with (go_at_call 174;refine(Bc _ _ _ _ _ _ _ _).mono ?_;rintro e w1 ⟨rfl,hy⟩;(first|(have hx:=hx.trans hy)|(have hx:=hy));have hc:=fun i=>hx.cell (p:=⟨w.heap.size,i,none⟩) (by first|(simp;done)|(simp;omega));have hz:=fun i=>hx.frozen (p:=⟨w.heap.size,i,none⟩) (by first|(simp;done)|(simp;omega));have hs:w.heap.size+1≤w1.heap.size:=by(have hs1:=hx.size;simp at hs1;omega));go_ret;exact⟨by rw[H.o];rfl,xE⟩
 ·have H:=Ya (show V9 st ow dl 5 client now=Jt st ow dl 2 client now by simp[V9]);go_enter Tryz.func160,Tryz.ntmps160;go_wp2_with (go_at_call 174;refine(Bc _ _ _ _ _ _ _ _).mono ?_;rintro e w1 ⟨rfl,hy⟩;(first|(have hx:=hx.trans hy)|(have hx:=hy));have hc:=fun i=>hx.cell (p:=⟨w.heap.size,i,none⟩) (by first|(simp;done)|(simp;omega));have hz:=fun i=>hx.frozen (p:=⟨w.heap.size,i,none⟩) (by first|(simp;done)|(simp;omega));have hs:w.heap.size+1≤w1.heap.size:=by(have hs1:=hx.size;simp at hs1;omega));go_ret;exact⟨by rw[H.o];rfl,xE⟩
 ·by_cases hs:st=0
  ·subst hs;have H:=Ya (show V9 0 ow dl 6 client now=23 by simp[V9]);go_enter Tryz.func160,Tryz.ntmps160;go_wp2_with (go_at_call 163;refine(Qw _ _ _ _ _ _).mono ?_;rintro e w1 ⟨rfl,hy⟩;(first|(have hx:=hx.trans hy)|(have hx:=hy));have hc:=fun i=>hx.cell (p:=⟨w.heap.size,i,none⟩) (by first|(simp;done)|(simp;omega));have hz:=fun i=>hx.frozen (p:=⟨w.heap.size,i,none⟩) (by first|(simp;done)|(simp;omega));have hs:w.heap.size+1≤w1.heap.size:=by(have hs1:=hx.size;simp at hs1;omega));go_ret;exact⟨by rw[H.o];rfl,xE⟩
  cases hl:Us st dl now
  ·have H:=Ya (show V9 st ow dl 6 client now=0 by simp[V9,hl,hs]);go_enter Tryz.func160,Tryz.ntmps160;go_wp2_with (go_at_call 163;refine(Qw _ _ _ _ _ _).mono ?_;rintro e w1 ⟨rfl,hy⟩;(first|(have hx:=hx.trans hy)|(have hx:=hy));have hc:=fun i=>hx.cell (p:=⟨w.heap.size,i,none⟩) (by first|(simp;done)|(simp;omega));have hz:=fun i=>hx.frozen (p:=⟨w.heap.size,i,none⟩) (by first|(simp;done)|(simp;omega));have hs:w.heap.size+1≤w1.heap.size:=by(have hs1:=hx.size;simp at hs1;omega));go_ret;exact⟨by rw[H.o];rfl,xE⟩
  have H:=Ya (show V9 st ow dl 6 client now=26 by simp[V9,hl,hs]);go_enter Tryz.func160,Tryz.ntmps160;go_wp2_with (go_at_call 163;refine(Qw _ _ _ _ _ _).mono ?_;rintro e w1 ⟨rfl,hy⟩;(first|(have hx:=hx.trans hy)|(have hx:=hy));have hc:=fun i=>hx.cell (p:=⟨w.heap.size,i,none⟩) (by first|(simp;done)|(simp;omega));have hz:=fun i=>hx.frozen (p:=⟨w.heap.size,i,none⟩) (by first|(simp;done)|(simp;omega));have hs:w.heap.size+1≤w1.heap.size:=by(have hs1:=hx.size;simp at hs1;omega));go_ret;exact⟨by rw[H.o];rfl,xE⟩
 ·have H:=Ya (show V9 st ow dl 7 client now=0 by simp[V9]);go_enter Tryz.func160,Tryz.ntmps160;go_wp2_with (go_at_call 163;refine(Qw _ _ _ _ _ _).mono ?_;rintro e w1 ⟨rfl,hy⟩;(first|(have hx:=hx.trans hy)|(have hx:=hy));have hc:=fun i=>hx.cell (p:=⟨w.heap.size,i,none⟩) (by first|(simp;done)|(simp;omega));have hz:=fun i=>hx.frozen (p:=⟨w.heap.size,i,none⟩) (by first|(simp;done)|(simp;omega));have hs:w.heap.size+1≤w1.heap.size:=by(have hs1:=hx.size;simp at hs1;omega));go_ret;exact⟨by rw[H.o];rfl,xE⟩
 have h1:¬ op=1:=by omega
 have h2:¬ op=2:=by omega
 have h3:¬ op=3:=by omega
 have h4:¬ op=4:=by omega
 have h5:¬ op=5:=by omega
 have h6:¬ op=6:=by omega
 have h7:¬ op=7:=by omega
 have H:=Ya (show V9 st ow dl op client now=1 by simp[V9,h1,h2,h3,h4,h5,h6,h7]);go_enter Tryz.func160,Tryz.ntmps160;go_wp2_with (go_at_call 163;refine(Qw _ _ _ _ _ _).mono ?_;rintro e w1 ⟨rfl,hy⟩;(first|(have hx:=hx.trans hy)|(have hx:=hy));have hc:=fun i=>hx.cell (p:=⟨w.heap.size,i,none⟩) (by first|(simp;done)|(simp;omega));have hz:=fun i=>hx.frozen (p:=⟨w.heap.size,i,none⟩) (by first|(simp;done)|(simp;omega));have hs:w.heap.size+1≤w1.heap.size:=by(have hs1:=hx.size;simp at hs1;omega));go_ret;exact⟨by rw[H.o];rfl,xE⟩
theorem Zo6{st dl now:Int}(h:Us st dl now=true):st=2∨st=1:=by
 simp[Us]at h;omega
theorem Zt5(st ow dl op client now:Int)(nm:ByteArray)(w:World) :
 Calls Tryz.prog 102 #[.agg #[.int .i64 st,.int .i64 ow,.string nm,.int .i64 dl],.int .i64 op,.int .i64 client,.int .i64 now] w fun e w'=>e=.returned (.int .i64 (V9 st ow dl op client now))∧Ext w w':=by
 rcases Zts op with rfl|rfl|rfl|rfl|rfl|rfl|rfl|h
 case' inr.inr.inr.inr.inr.inr.inr =>
  have h1:¬ op=1:=by omega
  have h2:¬ op=2:=by omega
  have h3:¬ op=3:=by omega
  have h4:¬ op=4:=by omega
  have h5:¬ op=5:=by omega
  have h6:¬ op=6:=by omega
  have h7:¬ op=7:=by omega
  have hl:=True.intro;rcases h with h|h
 case' inr.inr.inr.inr.inr.inr.inr.inr=>have h':¬ op<1:=by omega
 case' inr.inr.inr.inr.inr.inl =>
  by_cases hs:st=0
  try subst hs
 all_goals try cases hl:Us st dl now
 all_goals try(rcases Zo6 hl with rfl|rfl<;>(by_cases ho:ow=client;try subst ho))
 all_goals
  go_enter Tryz.func102,Tryz.ntmps102;go_wp2_with (go_at_call 104;refine(Tr _ _ _ _ _ _).mono ?_;rintro e w1 ⟨rfl,hy⟩;(first|(have hx:=hx.trans hy)|(have hx:=hy));have hc:=fun i=>hx.cell (p:=⟨w.heap.size,i,none⟩) (by first|(simp;done)|(simp;omega));have hz:=fun i=>hx.frozen (p:=⟨w.heap.size,i,none⟩) (by first|(simp;done)|(simp;omega));have hs:w.heap.size+1≤w1.heap.size:=by(have hs1:=hx.size;simp at hs1;omega));go_ret;exact⟨by simp[V9,Jt, *],xE⟩
def Dx(n:Nm):List Value:=[.string n.a,.string n.u,.string n.k]
def Wq:List Nm→List Value
 | []=>[]
 | n::r=>Dx n++Wq r
theorem Dj:∀ l:List Nm,(Wq l).length=l.length*3
 | []=>rfl
 | n::r=>by rw[Wq,Zs,Dj r];simp[Dx];omega
theorem Uo:∀ a b:List Nm,Wq (a++b)=Wq a++Wq b
 | [],_=>rfl
 | n::r,b=>by simp[Wq,Uo r b]
theorem Lq:∀ {l:List Nm} {j:Nat} {n:Nm},l[j]?=some n→(Wq l)[j*3]?=some (.string n.a)∧(Wq l)[j*3+1]?=some (.string n.u)∧(Wq l)[j*3+2]?=some (.string n.k)
 | m::r,0,n,h=>by
  simp only[Zx,Yf]at h;subst h;simp[Wq,Dx]
 | m::r,j+1,n,h=>by
  obtain⟨h1,h2,h3⟩:=Lq (l:=r) (j:=j) (n:=n) (by simpa using h);have hm:(Dx m).length=3:=rfl;have e:∀ k,(Wq (m::r))[(j+1)*3+k]?=(Wq r)[j*3+k]?:=fun k=>by
   rw[Wq,Zd (by omega),hm];congr 1;omega
  refine⟨?_,?_,?_⟩
  ·have:=e 0;simp only[Zkt]at this;rw[this,h1]
  ·rw[e 1,h2]
  rw[e 2,h3]
theorem Tz(l:List Nm):∀ u∈Wq l,u.oneCell'=true:=by
 induction l with
 | nil=>simp[Wq]
 | cons n r ih =>
  intro u hu;rw[Wq,Zj]at hu;rcases hu with hu|hu
  ·simp only[Dx,Zg,Zh,Zkl]at hu;rcases hu with rfl|rfl|rfl<;>rfl
  exact ih u hu
def Wf(w:World)(S:Nat→Prop)(v:Value)(l:List Nm):Prop:=Rd w S 3 v l.length (Wq l)
theorem Wf.get{w:World}{S:Nat→Prop}{v:Value}{l:List Nm}(h:Wf w S v l){j:Nat}(hj:j<l.length) :
 ∃ g o c,v=.slice (some ⟨g,o,none⟩) l.length c∧l.length≤c∧c≤maxLen∧S g∧g<w.heap.size∧∀ i n,l[i]?=some n→w.cell? ⟨g,o+i*3,none⟩=some (.string n.a)∧w.cell? ⟨g,o+i*3+1,none⟩=some (.string n.u)∧w.cell? ⟨g,o+i*3+2,none⟩=some (.string n.k):=by
 obtain⟨g,o,c,h1,h2,h3,h4,h5,h6⟩:=h.at_ hj;refine⟨g,o,c,h1,h2,h3,h4,h5,fun i n hi=>?_⟩;obtain⟨q1,q2,q3⟩:=Lq hi;exact⟨h6 _ _ q1,by rw[Zki];exact h6 _ _ q2,by rw[Zki];exact h6 _ _ q3⟩
theorem Wf.ext{w w':World}{S:Nat→Prop}{v:Value}{l:List Nm}(h:Wf w S v l)(x:Ext w w'):Wf w' S v l:=Rd.ext h x
theorem Wf.shape{w:World}{S:Nat→Prop}{v:Value}{l:List Nm}(h:Wf w S v l):∃ A c,v=.slice A l.length c:=by
 obtain⟨_,A,c,h,_⟩:=h;exact⟨A,c,h⟩
def Gm(n:Nm):List UInt8:=n.k.data.toList
theorem Mu:∀ l:List Nm,srt l=true↔∀ i a b,l[i]?=some a→l[i+1]?=some b→Gm a<Gm b
 | []=>by simp[srt]
 | [x]=>by simp[srt]
 | x::y::r=>by
  rw[srt,Zl7,Zl5,Mu (y::r)];constructor
  ·rintro⟨h1,h2⟩ i a b ha hb;cases i with
   | zero=>simp at ha hb;subst ha hb;exact h1
   | succ i=>exact h2 i a b (by simpa using ha) (by simpa using hb)
  intro h;exact⟨h 0 x y rfl rfl,fun i a b ha hb=>h (i+1) a b (by simpa using ha) (by simpa using hb)⟩
theorem Pm{x s:ByteArray}(h:s.data.toList<x.data.toList):Op.bytesLess x.toList s.toList=false∧(x.toList==s.toList)=false:=by
 rw[Go.Proofs.bytesLess_eq,Zl8,Zl8];exact⟨by simpa using List.le_of_lt h,by simp;intro e;rw[e]at h;exact Zir _ h⟩
theorem Ag{x s:ByteArray}(h:¬ s.data.toList<x.data.toList):(Op.bytesLess x.toList s.toList||x.toList==s.toList)=true:=by
 rw[Go.Proofs.bytesLess_eq,Zl8,Zl8];by_cases e:x.data.toList=s.data.toList
 ·simp[e]
 have:=Gd (List.not_lt.1 h) e;simp[this]
theorem Oq{S:Nat→Prop}(v:Value)(l:List Nm)(w:World)(hn:Wf w S v l) :
 Calls Tryz.prog 155 #[v] w fun e w'=>e=.returned (.bool (srt l))∧Ext w w':=by
 obtain⟨A,c,rfl⟩:=hn.shape;have hlm:=hn.len;unfold maxLen at hlm;have Hn:=Ya hn;clear hn;go_enter Tryz.func155,Tryz.ntmps155;go_wp2_with fail;go_loopw [3] (fun o wr=>∃ i:Nat,1≤i∧o=.int .i64 (i:Int)∧(∀ j a b,j+1<i→l[j]?=some a→l[j+1]?=some b→Gm a<Gm b)∧(i=1∨i≤l.length)∧Ext w wr) (fun o _=>l.length+1-(intOf o).toNat);case atStart=>exact⟨1,Yp _,rfl,fun j a b h=>by omega,.inl rfl,Yn _⟩
 obtain⟨i,hi,rfl,hso,hil,hx⟩:=hrel;have Hso:=Ya hso;have Hx:=Ya hx;clear hso hx;by_cases hlt:i<l.length
 ·have hd:decide ((i:Int)<(l.length:Int))=true:=by simpa using hlt
  obtain⟨g,o,c',hv,hc1,hc2,_,hg,hcell⟩:=(Hn.o.ext Hx.o).get (j:=i) hlt;simp only[Yg,Zlc]at hv;obtain⟨rfl,rfl⟩:=hv;obtain⟨a,ha⟩:∃ a,l[i-1]?=some a:=⟨l[i-1],by simp⟩;obtain⟨b,hb⟩:∃ b,l[i]?=some b:=⟨l[i],by simp[hlt]⟩;have c1:=(hcell _ _ ha).2.2;have c2:=(hcell _ _ hb).2.2;obtain⟨p,rfl⟩:∃ p,i=p+1:=⟨i-1,by omega⟩;simp only[Zkd]at ha c1;have q0:(0:Int)≤(p:Int):=by omega
  have q1:(p:Int)<(l.length:Int):=by omega
  have q2:(0:Int)≤((p+1:Nat):Int):=by omega
  have q3:((p+1:Nat):Int)<(l.length:Int):=by omega
  have q4:IntKind.i64.wrap (((p+1:Nat):Int)-1)=(p:Int):=by rw[Yr _ (by omega)];omega
  have q5:c≤9223372036854775807:=by unfold maxLen at hc2;omega
  have Ha:=Ya ha;have Hb:=Ya hb;clear hcell ha hb;by_cases hk:Gm a<Gm b
  ·obtain⟨f1,f2⟩:=Pm hk;have Hk:=Ya hk;clear hk;go_wp2_with fail;go_region;go_wp2_with fail;go_roundw;case rel =>
    refine⟨p+2,by omega,by go_num,fun j x y hj hx hy=>?_,by omega,Hx.o.drew⟩;by_cases hj2:j=p
    ·subst hj2;rw[Ha.o]at hx;rw[Hb.o]at hy;simp only[Yf]at hx hy;subst hx hy;exact Hk.o
    exact Hso.o j x y (by omega) hx hy
   case measure=>simp[intOf];omega
  have f1:=Ag hk;have Hno:=Ya (show srt l=false from by
   rw[← Zhw,Mu];intro h;exact hk (h p a b Ha.o Hb.o))
  clear hk;go_wp2_with fail;go_region;go_wp2_with fail;go_ret;exact⟨by rw[Hno.o];rfl,Hx.o.drew⟩
 have hd:decide ((i:Int)<(l.length:Int))=false:=by simp;omega
 have Hall:=Ya (show srt l=true from(Mu l).2 fun j a b ha hb=>Hso.o j a b (by have:=(Zr.1 hb).1;omega) ha hb);go_wp2_with fail;go_ret;exact⟨by rw[Hall.o];rfl,Hx.o⟩
theorem L0{S:Nat→Prop}(v:Value)(l:List Nm)(w:World)(hn:Wf w S v l) :
 Calls Tryz.prog 82 #[v] w fun e w'=>e=.returned (.bool (srt l))∧Ext w w':=by
 obtain⟨A,c,rfl⟩:=hn.shape;have hlm:=hn.len;unfold maxLen at hlm;have Hn:=Ya hn;clear hn;go_enter Tryz.func82,Tryz.ntmps82;go_wp2_with fail;go_loopw [3] (fun o wr=>∃ i:Nat,1≤i∧o=.int .i64 (i:Int)∧(∀ j a b,j+1<i→l[j]?=some a→l[j+1]?=some b→Gm a<Gm b)∧(i=1∨i≤l.length)∧Ext w wr) (fun o _=>l.length+1-(intOf o).toNat);case atStart=>exact⟨1,Yp _,rfl,fun j a b h=>by omega,.inl rfl,Yn _⟩
 obtain⟨i,hi,rfl,hso,hil,hx⟩:=hrel;have Hso:=Ya hso;have Hx:=Ya hx;clear hso hx;by_cases hlt:i<l.length
 ·have hd:decide ((i:Int)<(l.length:Int))=true:=by simpa using hlt
  obtain⟨g,o,c',hv,hc1,hc2,_,hg,hcell⟩:=(Hn.o.ext Hx.o).get (j:=i) hlt;simp only[Yg,Zlc]at hv;obtain⟨rfl,rfl⟩:=hv;obtain⟨a,ha⟩:∃ a,l[i-1]?=some a:=⟨l[i-1],by simp⟩;obtain⟨b,hb⟩:∃ b,l[i]?=some b:=⟨l[i],by simp[hlt]⟩;have c1:=(hcell _ _ ha).2.2;have c2:=(hcell _ _ hb).2.2;obtain⟨p,rfl⟩:∃ p,i=p+1:=⟨i-1,by omega⟩;simp only[Zkd]at ha c1;have q0:(0:Int)≤(p:Int):=by omega
  have q1:(p:Int)<(l.length:Int):=by omega
  have q2:(0:Int)≤((p+1:Nat):Int):=by omega
  have q3:((p+1:Nat):Int)<(l.length:Int):=by omega
  have q4:IntKind.i64.wrap (((p+1:Nat):Int)-1)=(p:Int):=by rw[Yr _ (by omega)];omega
  have q5:c≤9223372036854775807:=by unfold maxLen at hc2;omega
  have Ha:=Ya ha;have Hb:=Ya hb;clear hcell ha hb;by_cases hk:Gm a<Gm b
  ·obtain⟨f1,f2⟩:=Pm hk;have Hk:=Ya hk;clear hk;go_wp2_with fail;go_region;go_wp2_with fail;go_roundw;case rel =>
    refine⟨p+2,by omega,by go_num,fun j x y hj hx hy=>?_,by omega,Hx.o.drew⟩;by_cases hj2:j=p
    ·subst hj2;rw[Ha.o]at hx;rw[Hb.o]at hy;simp only[Yf]at hx hy;subst hx hy;exact Hk.o
    exact Hso.o j x y (by omega) hx hy
   case measure=>simp[intOf];omega
  have f1:=Ag hk;have Hno:=Ya (show srt l=false from by
   rw[← Zhw,Mu];intro h;exact hk (h p a b Ha.o Hb.o))
  clear hk;go_wp2_with fail;go_region;go_wp2_with fail;go_ret;exact⟨by rw[Hno.o];rfl,Hx.o.drew⟩
 have hd:decide ((i:Int)<(l.length:Int))=false:=by simp;omega
 have Hall:=Ya (show srt l=true from(Mu l).2 fun j a b ha hb=>Hso.o j a b (by have:=(Zr.1 hb).1;omega) ha hb);go_wp2_with fail;go_ret;exact⟨by rw[Hall.o];rfl,Hx.o⟩
def Jc(n:Nm):Bool:=decide (1≤n.a.size)&&decide (n.a.size≤63)
structure Nu(cl client op ttl now:Int)(ns:List Nm):Prop where
 c0:0≤client
 c1:client<cl
 o0:1≤op
 o1:op≤7
 n0:0≤now
 n1:now≤1073741824
 t1:Wx op=true→1≤ttl∧ttl≤1073741824
 t0:Wx op=false→ttl=0
 l0:1≤ns.length
 l1:ns.length≤16
 q:op=7→ns.length≤1
 srt:srt ns=true
 good:ns.all Jc=true
instance (cl client op ttl now:Int) (ns:List Nm):Decidable (Nu cl client op ttl now ns) :=
 decidable_of_iff (0≤client∧client<cl∧1≤op∧op≤7∧0≤now∧now≤1073741824∧(Wx op=true→1≤ttl∧ttl≤1073741824)∧(Wx op=false→ttl=0)∧1≤ns.length∧ns.length≤16∧(op=7→ns.length≤1)∧srt ns=true∧ns.all Jc=true)
  ⟨fun⟨a,b,c,d,e,f,g,h,i,j,k,l,m⟩=>⟨a,b,c,d,e,f,g,h,i,j,k,l,m⟩,fun⟨a,b,c,d,e,f,g,h,i,j,k,l,m⟩=>⟨a,b,c,d,e,f,g,h,i,j,k,l,m⟩⟩
def Qf(cl client op ttl now:Int)(ns:List Nm):Bool:=decide (Nu cl client op ttl now ns)
structure Ay where
 e:Int
 at_:Int
 nm:ByteArray
 rc:Rc
 tick:Int
def rcV(r:Rc):Value:=.agg #[.int .i64 r.st,.int .i64 r.ow,.string r.nm,.int .i64 r.dl]
def Wy(r:Ay):Value:=.agg #[.int .i64 r.e,.int .i64 r.at_,.string r.nm,.int .i64 r.rc.st,.int .i64 r.rc.ow,.string r.rc.nm,.int .i64 r.rc.dl,.int .i64 r.tick]
def Ztt(cap op client now count:Int)(r:Rc):Int :=
 if V9 r.st r.ow r.dl op client now=0∧0<Xl r.st op∧cap≤count then 7 else V9 r.st r.ow r.dl op client now
def Jw(op count:Int)(r:Rc):Int:=if 0<Xl r.st op then count+1 else count
def Qk(cap op client now:Int):Nat→Int→List (Nm×Rc)→Option (Int×Nat×ByteArray)
 | _,_,[]=>none
 | i,count,p::l=>if Ztt cap op client now count p.2=0 then Qk cap op client now (i+1) (Jw op count p.2) l else some (Ztt cap op client now count p.2,i,p.1.a)
def Wh(cap op client ttl now count:Int)(ps:List (Nm×Rc)):Ay :=
 if Wx op=true∧1073741824-now<ttl then⟨8,-1,⟨#[]⟩,default,now⟩else
 match Qk cap op client now 0 count ps with
 | some (e,i,n)=>⟨e,i,n,default,now⟩
 | none=>⟨0,-1,⟨#[]⟩,match ps with | []=>default|p::_=>if op=7∧Us p.2.st p.2.dl now=true then p.2 else default,now⟩
def Q7(op client dl:Int)(n:Nm)(r:Rc):Rc:=⟨Kx r.st op,Ky r.ow op client,Kz r.nm op n.a,Jb r.dl op dl⟩
def Ks(op client dl:Int)(l:List Kp)(ps:List (Nm×Rc)):List Kp:=ps.foldl (fun l p=>Ko l p.1.k (Q7 op client dl p.1 p.2)) l
def Vs(l:List Kp)(ns:List Nm):List (Nm×Rc):=ns.map fun n=>(n,Vx l n.k)
def doR(cl cap:Int)(l:List Kp)(client op ttl now:Int)(ns:List Nm):Ay :=
 if Qf cl client op ttl now ns=true then Wh cap op client ttl now l.length (Vs l ns)else⟨1,-1,⟨#[]⟩,default,0⟩
def doL(cl cap:Int)(l:List Kp)(client op ttl now:Int)(ns:List Nm):List Kp :=
 if Qf cl client op ttl now ns=true∧(Wh cap op client ttl now l.length (Vs l ns)).e=0 then Ks op client (now+ttl) l (Vs l ns)else l
theorem Tb(l:List Kp)(ns:List Nm):(Vs l ns).length=ns.length:=by simp[Vs]
theorem Zpt{l:List Kp}{ns:List Nm}{i:Nat}{n:Nm}(h:ns[i]?=some n):(Vs l ns)[i]?=some (n,Vx l n.k):=by simp[Vs,h]
theorem U9{α:Type}{l:List α}{i:Nat}{x:α}(h:l[i]?=some x):l.drop i=x::l.drop (i+1):=by
 obtain⟨hi,rfl⟩:=Zr.1 h;exact Zjw hi
theorem take_at{α:Type}{l:List α}{i:Nat}{x:α}(h:l[i]?=some x):l.take (i+1)=l.take i++[x]:=by rw[Za,h];rfl
def Kj(op:Int)(count:Int)(ps:List (Nm×Rc)):Int:=ps.foldl (fun c p=>Jw op c p.2) count
theorem Zxq(op count:Int)(ps:List (Nm×Rc)):count≤Kj op count ps∧Kj op count ps≤count+ps.length:=by
 induction ps generalizing count with
 | nil=>simp[Kj]
 | cons p ps ih =>
  have:=ih (Jw op count p.2);have e:Kj op count (p::ps)=Kj op (Jw op count p.2) ps:=rfl;have hn:Jw op count p.2=count∨Jw op count p.2=count+1:=by unfold Jw;split<;>simp
  rw[e];simp only[Zl];omega
theorem Rf(op count:Int)(ps:List (Nm×Rc))(p:Nm×Rc):Kj op count (ps++[p])=Jw op (Kj op count ps) p.2:=by simp[Kj,Zjn]
theorem Zrl{op client d d':Int}(h:Wx op=true→d=d')(n:Nm)(r:Rc):Q7 op client d n r=Q7 op client d' n r:=by
 unfold Q7;have:Jb r.dl op d=Jb r.dl op d':=by
  unfold Jb;by_cases h1:op=1
  ·rw[Zlm h1,Zlm h1,h (by simp[Wx,h1])]
  rw[Zlq h1,Zlq h1];by_cases h2:op=2
  ·rw[Zlm h2,Zlm h2]
  rw[Zlq h2,Zlq h2];by_cases h3:op=3
  ·rw[Zlm h3,Zlm h3,h (by simp[Wx,h3])]
  rw[Zlq h3,Zlq h3]
 rw[this]
theorem Dn(st op:Int):Xl st op=1∨Xl st op=0∨Xl st op = -1:=by by_cases h1:op=1<;>by_cases h2:st=0<;>by_cases h3:op=4∨op=5∨op=6<;>simp[Xl,h1,h2,h3]
structure V8(cap op client now count:Int)(ps:List (Nm×Rc))(i:Nat)(c:Int):Prop where
 le:i≤ps.length
 cnt:c=Kj op count (ps.take i)
 go:Qk cap op client now 0 count ps=Qk cap op client now i c (ps.drop i)
theorem V8.start(cap op client now count:Int)(ps:List (Nm×Rc)):V8 cap op client now count ps 0 count:=⟨Zlf _,rfl,rfl⟩
theorem V8.bd{cap op client now count c:Int}{ps:List (Nm×Rc)}{i:Nat}(h:V8 cap op client now count ps i c):count≤c∧c≤count+i:=by
 have:=Zxq op count (ps.take i);rw[← h.cnt,Zp]at this;omega
theorem V8.next{cap op client now count c:Int}{ps:List (Nm×Rc)}{i:Nat}{p:Nm×Rc}(h:V8 cap op client now count ps i c)(hp:ps[i]?=some p)(h0:Ztt cap op client now c p.2=0) :
 V8 cap op client now count ps (i+1) (Jw op c p.2):=by
 have hi:=(Zr.1 hp).1;refine⟨hi,?_,?_⟩
 ·rw[take_at hp,Rf,← h.cnt]
 rw[h.go,U9 hp,Qk,Zlm h0]
theorem V8.stop{cap op client now count c:Int}{ps:List (Nm×Rc)}{i:Nat}{p:Nm×Rc}(h:V8 cap op client now count ps i c)(hp:ps[i]?=some p)(h0:Ztt cap op client now c p.2≠0) :
 Qk cap op client now 0 count ps=some (Ztt cap op client now c p.2,i,p.1.a):=by
 rw[h.go,U9 hp,Qk,Zlq h0]
theorem V8.done{cap op client now count c:Int}{ps:List (Nm×Rc)}(h:V8 cap op client now count ps ps.length c):Qk cap op client now 0 count ps=none:=by
 rw[h.go,List.drop_length,Qk]
end Go.Proofs.YtnbclgbicnpmnaaGreat
