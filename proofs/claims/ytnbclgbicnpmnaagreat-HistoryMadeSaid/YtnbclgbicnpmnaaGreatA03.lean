/- Lemmas of this claim: Record, Record2, Names, Judge. Conditions: as named. -/
import Derived.Deep.RegionHeld3
import Derived.Laws.BitsAllLaws
import Derived.Laws.DeepNot64
import Derived.Laws.IdiomCopy
import Derived.Sort.Walk0
import Derived.WalkSmall
import Derived.Test.YtnbclgbicnpmnaaGreatA02
namespace Go.Proofs.YtnbclgbicnpmnaaGreat
open Go.RowKit Go.Sort
set_option maxHeartbeats 0
set_option maxRecDepth 100000
set_option linter.all false
def Xg(st op:Int):Int:=if op=1 then(if st=0 then 1 else 0)else if op=4∨op=5∨op=6 then(if st=0 then 0 else -1)else 0
theorem Fn(op:Int):op=1∨op=4∨op=5∨op=6∨(op≠1∧op≠4∧op≠5∧op≠6):=by omega
theorem Zp0(op:Int):op=1∨op=2∨op=3∨op=4∨op=5∨op=6∨op=7∨(op<1∨7<op):=by omega
theorem Se(st ow dl op:Int)(nm:ByteArray)(w:World) :
 Calls Tryz.prog 161 #[.agg #[.int .i64 st,.int .i64 ow,.string nm,.int .i64 dl],.int .i64 op] w fun e w'=>e=.returned (.int .i64 (Xg st op))∧Ext w w':=by
 by_cases hs:st=0
 ·subst hs;rcases Fn op with rfl|rfl|rfl|rfl|h
  ·have H:=Ya (show Xg 0 1=1 by simp[Xg]);go_enter Tryz.func161,Tryz.ntmps161;go_wp2;go_ret;exact⟨by rw[H.o];rfl,(by repeat' first|exact Yn _|assumption|apply Ym|apply Yl|apply Yk|(refine Yj ?_ (by assumption)))⟩
  ·have H:=Ya (show Xg 0 4=0 by simp[Xg]);go_enter Tryz.func161,Tryz.ntmps161;go_wp2;go_ret;exact⟨by rw[H.o];rfl,(by repeat' first|exact Yn _|assumption|apply Ym|apply Yl|apply Yk|(refine Yj ?_ (by assumption)))⟩
  ·have H:=Ya (show Xg 0 5=0 by simp[Xg]);go_enter Tryz.func161,Tryz.ntmps161;go_wp2;go_ret;exact⟨by rw[H.o];rfl,(by repeat' first|exact Yn _|assumption|apply Ym|apply Yl|apply Yk|(refine Yj ?_ (by assumption)))⟩
  ·have H:=Ya (show Xg 0 6=0 by simp[Xg]);go_enter Tryz.func161,Tryz.ntmps161;go_wp2;go_ret;exact⟨by rw[H.o];rfl,(by repeat' first|exact Yn _|assumption|apply Ym|apply Yl|apply Yk|(refine Yj ?_ (by assumption)))⟩
  have H:=Ya (show Xg 0 op=0 by simp[Xg,h.1,h.2.1,h.2.2.1,h.2.2.2]);obtain⟨h1,h2,h3,h4⟩:=h;go_enter Tryz.func161,Tryz.ntmps161;go_wp2;go_ret;exact⟨by rw[H.o];rfl,(by repeat' first|exact Yn _|assumption|apply Ym|apply Yl|apply Yk|(refine Yj ?_ (by assumption)))⟩
 rcases Fn op with rfl|rfl|rfl|rfl|h
 ·have H:=Ya (show Xg st 1=0 by simp[Xg,hs]);go_enter Tryz.func161,Tryz.ntmps161;go_wp2;go_ret;exact⟨by rw[H.o];rfl,(by repeat' first|exact Yn _|assumption|apply Ym|apply Yl|apply Yk|(refine Yj ?_ (by assumption)))⟩
 ·have H:=Ya (show Xg st 4 = -1 by simp[Xg,hs]);go_enter Tryz.func161,Tryz.ntmps161;go_wp2;go_ret;exact⟨by rw[H.o];rfl,(by repeat' first|exact Yn _|assumption|apply Ym|apply Yl|apply Yk|(refine Yj ?_ (by assumption)))⟩
 ·have H:=Ya (show Xg st 5 = -1 by simp[Xg,hs]);go_enter Tryz.func161,Tryz.ntmps161;go_wp2;go_ret;exact⟨by rw[H.o];rfl,(by repeat' first|exact Yn _|assumption|apply Ym|apply Yl|apply Yk|(refine Yj ?_ (by assumption)))⟩
 ·have H:=Ya (show Xg st 6 = -1 by simp[Xg,hs]);go_enter Tryz.func161,Tryz.ntmps161;go_wp2;go_ret;exact⟨by rw[H.o];rfl,(by repeat' first|exact Yn _|assumption|apply Ym|apply Yl|apply Yk|(refine Yj ?_ (by assumption)))⟩
 have H:=Ya (show Xg st op=0 by simp[Xg,h.1,h.2.1,h.2.2.1,h.2.2.2]);obtain⟨h1,h2,h3,h4⟩:=h;go_enter Tryz.func161,Tryz.ntmps161;go_wp2;go_ret;exact⟨by rw[H.o];rfl,(by repeat' first|exact Yn _|assumption|apply Ym|apply Yl|apply Yk|(refine Yj ?_ (by assumption)))⟩
theorem Oj(st ow dl op:Int)(nm:ByteArray)(w:World) :
 Calls Tryz.prog 103 #[.agg #[.int .i64 st,.int .i64 ow,.string nm,.int .i64 dl],.int .i64 op] w fun e w'=>e=.returned (.int .i64 (Xg st op))∧Ext w w':=by
 by_cases hs:st=0
 ·subst hs;rcases Fn op with rfl|rfl|rfl|rfl|h
  ·have H:=Ya (show Xg 0 1=1 by simp[Xg]);go_enter Tryz.func103,Tryz.ntmps103;go_wp2;go_ret;exact⟨by rw[H.o];rfl,(by repeat' first|exact Yn _|assumption|apply Ym|apply Yl|apply Yk|(refine Yj ?_ (by assumption)))⟩
  ·have H:=Ya (show Xg 0 4=0 by simp[Xg]);go_enter Tryz.func103,Tryz.ntmps103;go_wp2;go_ret;exact⟨by rw[H.o];rfl,(by repeat' first|exact Yn _|assumption|apply Ym|apply Yl|apply Yk|(refine Yj ?_ (by assumption)))⟩
  ·have H:=Ya (show Xg 0 5=0 by simp[Xg]);go_enter Tryz.func103,Tryz.ntmps103;go_wp2;go_ret;exact⟨by rw[H.o];rfl,(by repeat' first|exact Yn _|assumption|apply Ym|apply Yl|apply Yk|(refine Yj ?_ (by assumption)))⟩
  ·have H:=Ya (show Xg 0 6=0 by simp[Xg]);go_enter Tryz.func103,Tryz.ntmps103;go_wp2;go_ret;exact⟨by rw[H.o];rfl,(by repeat' first|exact Yn _|assumption|apply Ym|apply Yl|apply Yk|(refine Yj ?_ (by assumption)))⟩
  have H:=Ya (show Xg 0 op=0 by simp[Xg,h.1,h.2.1,h.2.2.1,h.2.2.2]);obtain⟨h1,h2,h3,h4⟩:=h;go_enter Tryz.func103,Tryz.ntmps103;go_wp2;go_ret;exact⟨by rw[H.o];rfl,(by repeat' first|exact Yn _|assumption|apply Ym|apply Yl|apply Yk|(refine Yj ?_ (by assumption)))⟩
 rcases Fn op with rfl|rfl|rfl|rfl|h
 ·have H:=Ya (show Xg st 1=0 by simp[Xg,hs]);go_enter Tryz.func103,Tryz.ntmps103;go_wp2;go_ret;exact⟨by rw[H.o];rfl,(by repeat' first|exact Yn _|assumption|apply Ym|apply Yl|apply Yk|(refine Yj ?_ (by assumption)))⟩
 ·have H:=Ya (show Xg st 4 = -1 by simp[Xg,hs]);go_enter Tryz.func103,Tryz.ntmps103;go_wp2;go_ret;exact⟨by rw[H.o];rfl,(by repeat' first|exact Yn _|assumption|apply Ym|apply Yl|apply Yk|(refine Yj ?_ (by assumption)))⟩
 ·have H:=Ya (show Xg st 5 = -1 by simp[Xg,hs]);go_enter Tryz.func103,Tryz.ntmps103;go_wp2;go_ret;exact⟨by rw[H.o];rfl,(by repeat' first|exact Yn _|assumption|apply Ym|apply Yl|apply Yk|(refine Yj ?_ (by assumption)))⟩
 ·have H:=Ya (show Xg st 6 = -1 by simp[Xg,hs]);go_enter Tryz.func103,Tryz.ntmps103;go_wp2;go_ret;exact⟨by rw[H.o];rfl,(by repeat' first|exact Yn _|assumption|apply Ym|apply Yl|apply Yk|(refine Yj ?_ (by assumption)))⟩
 have H:=Ya (show Xg st op=0 by simp[Xg,h.1,h.2.1,h.2.2.1,h.2.2.2]);obtain⟨h1,h2,h3,h4⟩:=h;go_enter Tryz.func103,Tryz.ntmps103;go_wp2;go_ret;exact⟨by rw[H.o];rfl,(by repeat' first|exact Yn _|assumption|apply Ym|apply Yl|apply Yk|(refine Yj ?_ (by assumption)))⟩
def Ks(st op:Int):Int:=if op=1 then 1 else if op=2 then 2 else if op=4∨op=5∨op=6 then 0 else st
def Kt(ow op client:Int):Int:=if op=1 then client else if op=4∨op=5∨op=6 then 0 else ow
def Ku(nm:ByteArray)(op:Int)(name:ByteArray):ByteArray:=if op=1 then name else if op=4∨op=5∨op=6 then⟨#[]⟩else nm
def J3(dl op deadline:Int):Int:=if op=1 then deadline else if op=2 then 0 else if op=3 then deadline else if op=4∨op=5∨op=6 then 0 else dl
theorem Sv(st ow dl op client deadline:Int)(nm name:ByteArray)(w:World) :
 Calls Tryz.prog 162 #[.agg #[.int .i64 st,.int .i64 ow,.string nm,.int .i64 dl],.int .i64 op,.int .i64 client,.string name,.int .i64 deadline] w fun e w' =>
  e=.returned (.agg #[.int .i64 (Ks st op),.int .i64 (Kt ow op client),.string (Ku nm op name),.int .i64 (J3 dl op deadline)])∧Ext w w':=by
 rcases Zp0 op with rfl|rfl|rfl|rfl|rfl|rfl|rfl|h
 ·go_enter Tryz.func162,Tryz.ntmps162;go_wp2;exact Yu (v:=.agg #[.int .i64 (Ks st 1),.int .i64 (Kt ow 1 client),.string (Ku nm 1 name),.int .i64 (J3 dl 1 deadline)]) (by simp[results,Tryz.results162,go_sem,Ks,Kt,Ku,J3]) rfl ⟨rfl,(by repeat' first|exact Yn _|assumption|apply Ym|apply Yl|apply Yk|(refine Yj ?_ (by assumption)))⟩
 ·go_enter Tryz.func162,Tryz.ntmps162;go_wp2;exact Yu (v:=.agg #[.int .i64 (Ks st 2),.int .i64 (Kt ow 2 client),.string (Ku nm 2 name),.int .i64 (J3 dl 2 deadline)]) (by simp[results,Tryz.results162,go_sem,Ks,Kt,Ku,J3]) rfl ⟨rfl,(by repeat' first|exact Yn _|assumption|apply Ym|apply Yl|apply Yk|(refine Yj ?_ (by assumption)))⟩
 ·go_enter Tryz.func162,Tryz.ntmps162;go_wp2;exact Yu (v:=.agg #[.int .i64 (Ks st 3),.int .i64 (Kt ow 3 client),.string (Ku nm 3 name),.int .i64 (J3 dl 3 deadline)]) (by simp[results,Tryz.results162,go_sem,Ks,Kt,Ku,J3]) rfl ⟨rfl,(by repeat' first|exact Yn _|assumption|apply Ym|apply Yl|apply Yk|(refine Yj ?_ (by assumption)))⟩
 ·go_enter Tryz.func162,Tryz.ntmps162;go_wp2;exact Yu (v:=.agg #[.int .i64 (Ks st 4),.int .i64 (Kt ow 4 client),.string (Ku nm 4 name),.int .i64 (J3 dl 4 deadline)]) (by simp[results,Tryz.results162,go_sem,Ks,Kt,Ku,J3]) rfl ⟨rfl,(by repeat' first|exact Yn _|assumption|apply Ym|apply Yl|apply Yk|(refine Yj ?_ (by assumption)))⟩
 ·go_enter Tryz.func162,Tryz.ntmps162;go_wp2;exact Yu (v:=.agg #[.int .i64 (Ks st 5),.int .i64 (Kt ow 5 client),.string (Ku nm 5 name),.int .i64 (J3 dl 5 deadline)]) (by simp[results,Tryz.results162,go_sem,Ks,Kt,Ku,J3]) rfl ⟨rfl,(by repeat' first|exact Yn _|assumption|apply Ym|apply Yl|apply Yk|(refine Yj ?_ (by assumption)))⟩
 ·go_enter Tryz.func162,Tryz.ntmps162;go_wp2;exact Yu (v:=.agg #[.int .i64 (Ks st 6),.int .i64 (Kt ow 6 client),.string (Ku nm 6 name),.int .i64 (J3 dl 6 deadline)]) (by simp[results,Tryz.results162,go_sem,Ks,Kt,Ku,J3]) rfl ⟨rfl,(by repeat' first|exact Yn _|assumption|apply Ym|apply Yl|apply Yk|(refine Yj ?_ (by assumption)))⟩
 ·go_enter Tryz.func162,Tryz.ntmps162;go_wp2;exact Yu (v:=.agg #[.int .i64 (Ks st 7),.int .i64 (Kt ow 7 client),.string (Ku nm 7 name),.int .i64 (J3 dl 7 deadline)]) (by simp[results,Tryz.results162,go_sem,Ks,Kt,Ku,J3]) rfl ⟨rfl,(by repeat' first|exact Yn _|assumption|apply Ym|apply Yl|apply Yk|(refine Yj ?_ (by assumption)))⟩
 have h1:¬ op=1:=by omega
 have h2:¬ op=2:=by omega
 have h3:¬ op=3:=by omega
 have h4:¬ op=4:=by omega
 have h5:¬ op=5:=by omega
 have h6:¬ op=6:=by omega
 go_enter Tryz.func162,Tryz.ntmps162;go_wp2;exact Yu (v:=.agg #[.int .i64 (Ks st op),.int .i64 (Kt ow op client),.string (Ku nm op name),.int .i64 (J3 dl op deadline)]) (by simp[results,Tryz.results162,go_sem,Ks,Kt,Ku,J3,h1,h2,h3,h4,h5,h6]) rfl ⟨rfl,(by repeat' first|exact Yn _|assumption|apply Ym|apply Yl|apply Yk|(refine Yj ?_ (by assumption)))⟩
theorem Dh(st ow dl op client deadline:Int)(nm name:ByteArray)(w:World) :
 Calls Tryz.prog 74 #[.agg #[.int .i64 st,.int .i64 ow,.string nm,.int .i64 dl],.int .i64 op,.int .i64 client,.string name,.int .i64 deadline] w fun e w' =>
  e=.returned (.agg #[.int .i64 (Ks st op),.int .i64 (Kt ow op client),.string (Ku nm op name),.int .i64 (J3 dl op deadline)])∧Ext w w':=by
 rcases Zp0 op with rfl|rfl|rfl|rfl|rfl|rfl|rfl|h
 ·go_enter Tryz.func74,Tryz.ntmps74;go_wp2;exact Yu (v:=.agg #[.int .i64 (Ks st 1),.int .i64 (Kt ow 1 client),.string (Ku nm 1 name),.int .i64 (J3 dl 1 deadline)]) (by simp[results,Tryz.results74,go_sem,Ks,Kt,Ku,J3]) rfl ⟨rfl,(by repeat' first|exact Yn _|assumption|apply Ym|apply Yl|apply Yk|(refine Yj ?_ (by assumption)))⟩
 ·go_enter Tryz.func74,Tryz.ntmps74;go_wp2;exact Yu (v:=.agg #[.int .i64 (Ks st 2),.int .i64 (Kt ow 2 client),.string (Ku nm 2 name),.int .i64 (J3 dl 2 deadline)]) (by simp[results,Tryz.results74,go_sem,Ks,Kt,Ku,J3]) rfl ⟨rfl,(by repeat' first|exact Yn _|assumption|apply Ym|apply Yl|apply Yk|(refine Yj ?_ (by assumption)))⟩
 ·go_enter Tryz.func74,Tryz.ntmps74;go_wp2;exact Yu (v:=.agg #[.int .i64 (Ks st 3),.int .i64 (Kt ow 3 client),.string (Ku nm 3 name),.int .i64 (J3 dl 3 deadline)]) (by simp[results,Tryz.results74,go_sem,Ks,Kt,Ku,J3]) rfl ⟨rfl,(by repeat' first|exact Yn _|assumption|apply Ym|apply Yl|apply Yk|(refine Yj ?_ (by assumption)))⟩
 ·go_enter Tryz.func74,Tryz.ntmps74;go_wp2;exact Yu (v:=.agg #[.int .i64 (Ks st 4),.int .i64 (Kt ow 4 client),.string (Ku nm 4 name),.int .i64 (J3 dl 4 deadline)]) (by simp[results,Tryz.results74,go_sem,Ks,Kt,Ku,J3]) rfl ⟨rfl,(by repeat' first|exact Yn _|assumption|apply Ym|apply Yl|apply Yk|(refine Yj ?_ (by assumption)))⟩
 ·go_enter Tryz.func74,Tryz.ntmps74;go_wp2;exact Yu (v:=.agg #[.int .i64 (Ks st 5),.int .i64 (Kt ow 5 client),.string (Ku nm 5 name),.int .i64 (J3 dl 5 deadline)]) (by simp[results,Tryz.results74,go_sem,Ks,Kt,Ku,J3]) rfl ⟨rfl,(by repeat' first|exact Yn _|assumption|apply Ym|apply Yl|apply Yk|(refine Yj ?_ (by assumption)))⟩
 ·go_enter Tryz.func74,Tryz.ntmps74;go_wp2;exact Yu (v:=.agg #[.int .i64 (Ks st 6),.int .i64 (Kt ow 6 client),.string (Ku nm 6 name),.int .i64 (J3 dl 6 deadline)]) (by simp[results,Tryz.results74,go_sem,Ks,Kt,Ku,J3]) rfl ⟨rfl,(by repeat' first|exact Yn _|assumption|apply Ym|apply Yl|apply Yk|(refine Yj ?_ (by assumption)))⟩
 ·go_enter Tryz.func74,Tryz.ntmps74;go_wp2;exact Yu (v:=.agg #[.int .i64 (Ks st 7),.int .i64 (Kt ow 7 client),.string (Ku nm 7 name),.int .i64 (J3 dl 7 deadline)]) (by simp[results,Tryz.results74,go_sem,Ks,Kt,Ku,J3]) rfl ⟨rfl,(by repeat' first|exact Yn _|assumption|apply Ym|apply Yl|apply Yk|(refine Yj ?_ (by assumption)))⟩
 have h1:¬ op=1:=by omega
 have h2:¬ op=2:=by omega
 have h3:¬ op=3:=by omega
 have h4:¬ op=4:=by omega
 have h5:¬ op=5:=by omega
 have h6:¬ op=6:=by omega
 go_enter Tryz.func74,Tryz.ntmps74;go_wp2;exact Yu (v:=.agg #[.int .i64 (Ks st op),.int .i64 (Kt ow op client),.string (Ku nm op name),.int .i64 (J3 dl op deadline)]) (by simp[results,Tryz.results74,go_sem,Ks,Kt,Ku,J3,h1,h2,h3,h4,h5,h6]) rfl ⟨rfl,(by repeat' first|exact Yn _|assumption|apply Ym|apply Yl|apply Yk|(refine Yj ?_ (by assumption)))⟩
def Jq(st ow dl state client now:Int):Int :=
 if Uh st dl now=false then 23 else if ow=client then(if st=state then 0 else 26)else 25
def Qx(st ow dl op client now:Int):Int :=
 if op=1 then(if Uh st dl now=true then 24 else 0)
 else if op=2∨op=3∨op=4 then Jq st ow dl 1 client now
 else if op=5 then Jq st ow dl 2 client now
 else if op=6 then(if st=0 then 23 else if Uh st dl now=true then 26 else 0)
 else if op=7 then 0 else 1
theorem Ep(st ow dl state client now:Int)(nm:ByteArray)(w:World) :
 Calls Tryz.prog 174 #[.agg #[.int .i64 st,.int .i64 ow,.string nm,.int .i64 dl],.int .i64 state,.int .i64 client,.int .i64 now] w fun e w'=>e=.returned (.int .i64 (Jq st ow dl state client now))∧Ext w w':=by
 cases hl:Uh st dl now
 ·have H:=Ya (show Jq st ow dl state client now=23 by simp[Jq,hl]);go_enter Tryz.func174,Tryz.ntmps174;go_wp2_with (go_at_call 163;refine(Qt _ _ _ _ _ _).mono ?_;rintro e w1 ⟨rfl,hy⟩;(first|(have hx:=hx.trans hy)|(have hx:=hy));have hc:=fun i=>hx.cell (p:=⟨w.heap.size,i,none⟩) (by first|(simp;done)|(simp;omega));have hz:=fun i=>hx.frozen (p:=⟨w.heap.size,i,none⟩) (by first|(simp;done)|(simp;omega));have hs:w.heap.size+1≤w1.heap.size:=by(have hs1:=hx.size;simp at hs1;omega));go_ret;exact⟨by rw[H.o];rfl,(by repeat' first|exact Yn _|assumption|apply Ym|apply Yl|apply Yk|(refine Yj ?_ (by assumption)))⟩
 by_cases ho:ow=client
 ·subst ho;by_cases hs:st=state
  ·subst hs;have H:=Ya (show Jq st ow dl st ow now=0 by simp[Jq,hl]);go_enter Tryz.func174,Tryz.ntmps174;go_wp2_with (go_at_call 163;refine(Qt _ _ _ _ _ _).mono ?_;rintro e w1 ⟨rfl,hy⟩;(first|(have hx:=hx.trans hy)|(have hx:=hy));have hc:=fun i=>hx.cell (p:=⟨w.heap.size,i,none⟩) (by first|(simp;done)|(simp;omega));have hz:=fun i=>hx.frozen (p:=⟨w.heap.size,i,none⟩) (by first|(simp;done)|(simp;omega));have hs:w.heap.size+1≤w1.heap.size:=by(have hs1:=hx.size;simp at hs1;omega));go_ret;exact⟨by rw[H.o];rfl,(by repeat' first|exact Yn _|assumption|apply Ym|apply Yl|apply Yk|(refine Yj ?_ (by assumption)))⟩
  have H:=Ya (show Jq st ow dl state ow now=26 by simp[Jq,hl,hs]);go_enter Tryz.func174,Tryz.ntmps174;go_wp2_with (go_at_call 163;refine(Qt _ _ _ _ _ _).mono ?_;rintro e w1 ⟨rfl,hy⟩;(first|(have hx:=hx.trans hy)|(have hx:=hy));have hc:=fun i=>hx.cell (p:=⟨w.heap.size,i,none⟩) (by first|(simp;done)|(simp;omega));have hz:=fun i=>hx.frozen (p:=⟨w.heap.size,i,none⟩) (by first|(simp;done)|(simp;omega));have hs:w.heap.size+1≤w1.heap.size:=by(have hs1:=hx.size;simp at hs1;omega));go_ret;exact⟨by rw[H.o];rfl,(by repeat' first|exact Yn _|assumption|apply Ym|apply Yl|apply Yk|(refine Yj ?_ (by assumption)))⟩
 have H:=Ya (show Jq st ow dl state client now=25 by simp[Jq,hl,ho]);go_enter Tryz.func174,Tryz.ntmps174;go_wp2_with (go_at_call 163;refine(Qt _ _ _ _ _ _).mono ?_;rintro e w1 ⟨rfl,hy⟩;(first|(have hx:=hx.trans hy)|(have hx:=hy));have hc:=fun i=>hx.cell (p:=⟨w.heap.size,i,none⟩) (by first|(simp;done)|(simp;omega));have hz:=fun i=>hx.frozen (p:=⟨w.heap.size,i,none⟩) (by first|(simp;done)|(simp;omega));have hs:w.heap.size+1≤w1.heap.size:=by(have hs1:=hx.size;simp at hs1;omega));go_ret;exact⟨by rw[H.o];rfl,(by repeat' first|exact Yn _|assumption|apply Ym|apply Yl|apply Yk|(refine Yj ?_ (by assumption)))⟩
theorem Zth(op:Int):op=1∨op=2∨op=3∨op=4∨op=5∨op=6∨op=7∨(op<1∨7<op):=by omega
theorem Zxt(st ow dl op client now:Int)(nm:ByteArray)(w:World) :
 Calls Tryz.prog 160 #[.agg #[.int .i64 st,.int .i64 ow,.string nm,.int .i64 dl],.int .i64 op,.int .i64 client,.int .i64 now] w fun e w'=>e=.returned (.int .i64 (Qx st ow dl op client now))∧Ext w w':=by
 rcases Zth op with rfl|rfl|rfl|rfl|rfl|rfl|rfl|h
 ·cases hl:Uh st dl now
  ·have H:=Ya (show Qx st ow dl 1 client now=0 by simp[Qx,hl]);go_enter Tryz.func160,Tryz.ntmps160;go_wp2_with (go_at_call 163;refine(Qt _ _ _ _ _ _).mono ?_;rintro e w1 ⟨rfl,hy⟩;(first|(have hx:=hx.trans hy)|(have hx:=hy));have hc:=fun i=>hx.cell (p:=⟨w.heap.size,i,none⟩) (by first|(simp;done)|(simp;omega));have hz:=fun i=>hx.frozen (p:=⟨w.heap.size,i,none⟩) (by first|(simp;done)|(simp;omega));have hs:w.heap.size+1≤w1.heap.size:=by(have hs1:=hx.size;simp at hs1;omega));go_ret;exact⟨by rw[H.o];rfl,(by repeat' first|exact Yn _|assumption|apply Ym|apply Yl|apply Yk|(refine Yj ?_ (by assumption)))⟩
  have H:=Ya (show Qx st ow dl 1 client now=24 by simp[Qx,hl]);go_enter Tryz.func160,Tryz.ntmps160;go_wp2_with (go_at_call 163;refine(Qt _ _ _ _ _ _).mono ?_;rintro e w1 ⟨rfl,hy⟩;(first|(have hx:=hx.trans hy)|(have hx:=hy));have hc:=fun i=>hx.cell (p:=⟨w.heap.size,i,none⟩) (by first|(simp;done)|(simp;omega));have hz:=fun i=>hx.frozen (p:=⟨w.heap.size,i,none⟩) (by first|(simp;done)|(simp;omega));have hs:w.heap.size+1≤w1.heap.size:=by(have hs1:=hx.size;simp at hs1;omega));go_ret;exact⟨by rw[H.o];rfl,(by repeat' first|exact Yn _|assumption|apply Ym|apply Yl|apply Yk|(refine Yj ?_ (by assumption)))⟩
 ·have H:=Ya (show Qx st ow dl 2 client now=Jq st ow dl 1 client now by simp[Qx]);go_enter Tryz.func160,Tryz.ntmps160;go_wp2_with (go_at_call 174;refine(Ep _ _ _ _ _ _ _ _).mono ?_;rintro e w1 ⟨rfl,hy⟩;(first|(have hx:=hx.trans hy)|(have hx:=hy));have hc:=fun i=>hx.cell (p:=⟨w.heap.size,i,none⟩) (by first|(simp;done)|(simp;omega));have hz:=fun i=>hx.frozen (p:=⟨w.heap.size,i,none⟩) (by first|(simp;done)|(simp;omega));have hs:w.heap.size+1≤w1.heap.size:=by(have hs1:=hx.size;simp at hs1;omega));go_ret;exact⟨by rw[H.o];rfl,(by repeat' first|exact Yn _|assumption|apply Ym|apply Yl|apply Yk|(refine Yj ?_ (by assumption)))⟩
 ·have H:=Ya (show Qx st ow dl 3 client now=Jq st ow dl 1 client now by simp[Qx]);go_enter Tryz.func160,Tryz.ntmps160;go_wp2_with (go_at_call 174;refine(Ep _ _ _ _ _ _ _ _).mono ?_;rintro e w1 ⟨rfl,hy⟩;(first|(have hx:=hx.trans hy)|(have hx:=hy));have hc:=fun i=>hx.cell (p:=⟨w.heap.size,i,none⟩) (by first|(simp;done)|(simp;omega));have hz:=fun i=>hx.frozen (p:=⟨w.heap.size,i,none⟩) (by first|(simp;done)|(simp;omega));have hs:w.heap.size+1≤w1.heap.size:=by(have hs1:=hx.size;simp at hs1;omega));go_ret;exact⟨by rw[H.o];rfl,(by repeat' first|exact Yn _|assumption|apply Ym|apply Yl|apply Yk|(refine Yj ?_ (by assumption)))⟩
 ·have H:=Ya (show Qx st ow dl 4 client now=Jq st ow dl 1 client now by simp[Qx]);go_enter Tryz.func160,Tryz.ntmps160;go_wp2_with (go_at_call 174;refine(Ep _ _ _ _ _ _ _ _).mono ?_;rintro e w1 ⟨rfl,hy⟩;(first|(have hx:=hx.trans hy)|(have hx:=hy));have hc:=fun i=>hx.cell (p:=⟨w.heap.size,i,none⟩) (by first|(simp;done)|(simp;omega));have hz:=fun i=>hx.frozen (p:=⟨w.heap.size,i,none⟩) (by first|(simp;done)|(simp;omega));have hs:w.heap.size+1≤w1.heap.size:=by(have hs1:=hx.size;simp at hs1;omega));go_ret;exact⟨by rw[H.o];rfl,(by repeat' first|exact Yn _|assumption|apply Ym|apply Yl|apply Yk|(refine Yj ?_ (by assumption)))⟩
 ·have H:=Ya (show Qx st ow dl 5 client now=Jq st ow dl 2 client now by simp[Qx]);go_enter Tryz.func160,Tryz.ntmps160;go_wp2_with (go_at_call 174;refine(Ep _ _ _ _ _ _ _ _).mono ?_;rintro e w1 ⟨rfl,hy⟩;(first|(have hx:=hx.trans hy)|(have hx:=hy));have hc:=fun i=>hx.cell (p:=⟨w.heap.size,i,none⟩) (by first|(simp;done)|(simp;omega));have hz:=fun i=>hx.frozen (p:=⟨w.heap.size,i,none⟩) (by first|(simp;done)|(simp;omega));have hs:w.heap.size+1≤w1.heap.size:=by(have hs1:=hx.size;simp at hs1;omega));go_ret;exact⟨by rw[H.o];rfl,(by repeat' first|exact Yn _|assumption|apply Ym|apply Yl|apply Yk|(refine Yj ?_ (by assumption)))⟩
 ·by_cases hs:st=0
  ·subst hs;have H:=Ya (show Qx 0 ow dl 6 client now=23 by simp[Qx]);go_enter Tryz.func160,Tryz.ntmps160;go_wp2_with (go_at_call 163;refine(Qt _ _ _ _ _ _).mono ?_;rintro e w1 ⟨rfl,hy⟩;(first|(have hx:=hx.trans hy)|(have hx:=hy));have hc:=fun i=>hx.cell (p:=⟨w.heap.size,i,none⟩) (by first|(simp;done)|(simp;omega));have hz:=fun i=>hx.frozen (p:=⟨w.heap.size,i,none⟩) (by first|(simp;done)|(simp;omega));have hs:w.heap.size+1≤w1.heap.size:=by(have hs1:=hx.size;simp at hs1;omega));go_ret;exact⟨by rw[H.o];rfl,(by repeat' first|exact Yn _|assumption|apply Ym|apply Yl|apply Yk|(refine Yj ?_ (by assumption)))⟩
  cases hl:Uh st dl now
  ·have H:=Ya (show Qx st ow dl 6 client now=0 by simp[Qx,hl,hs]);go_enter Tryz.func160,Tryz.ntmps160;go_wp2_with (go_at_call 163;refine(Qt _ _ _ _ _ _).mono ?_;rintro e w1 ⟨rfl,hy⟩;(first|(have hx:=hx.trans hy)|(have hx:=hy));have hc:=fun i=>hx.cell (p:=⟨w.heap.size,i,none⟩) (by first|(simp;done)|(simp;omega));have hz:=fun i=>hx.frozen (p:=⟨w.heap.size,i,none⟩) (by first|(simp;done)|(simp;omega));have hs:w.heap.size+1≤w1.heap.size:=by(have hs1:=hx.size;simp at hs1;omega));go_ret;exact⟨by rw[H.o];rfl,(by repeat' first|exact Yn _|assumption|apply Ym|apply Yl|apply Yk|(refine Yj ?_ (by assumption)))⟩
  have H:=Ya (show Qx st ow dl 6 client now=26 by simp[Qx,hl,hs]);go_enter Tryz.func160,Tryz.ntmps160;go_wp2_with (go_at_call 163;refine(Qt _ _ _ _ _ _).mono ?_;rintro e w1 ⟨rfl,hy⟩;(first|(have hx:=hx.trans hy)|(have hx:=hy));have hc:=fun i=>hx.cell (p:=⟨w.heap.size,i,none⟩) (by first|(simp;done)|(simp;omega));have hz:=fun i=>hx.frozen (p:=⟨w.heap.size,i,none⟩) (by first|(simp;done)|(simp;omega));have hs:w.heap.size+1≤w1.heap.size:=by(have hs1:=hx.size;simp at hs1;omega));go_ret;exact⟨by rw[H.o];rfl,(by repeat' first|exact Yn _|assumption|apply Ym|apply Yl|apply Yk|(refine Yj ?_ (by assumption)))⟩
 ·have H:=Ya (show Qx st ow dl 7 client now=0 by simp[Qx]);go_enter Tryz.func160,Tryz.ntmps160;go_wp2_with (go_at_call 163;refine(Qt _ _ _ _ _ _).mono ?_;rintro e w1 ⟨rfl,hy⟩;(first|(have hx:=hx.trans hy)|(have hx:=hy));have hc:=fun i=>hx.cell (p:=⟨w.heap.size,i,none⟩) (by first|(simp;done)|(simp;omega));have hz:=fun i=>hx.frozen (p:=⟨w.heap.size,i,none⟩) (by first|(simp;done)|(simp;omega));have hs:w.heap.size+1≤w1.heap.size:=by(have hs1:=hx.size;simp at hs1;omega));go_ret;exact⟨by rw[H.o];rfl,(by repeat' first|exact Yn _|assumption|apply Ym|apply Yl|apply Yk|(refine Yj ?_ (by assumption)))⟩
 have h1:¬ op=1:=by omega
 have h2:¬ op=2:=by omega
 have h3:¬ op=3:=by omega
 have h4:¬ op=4:=by omega
 have h5:¬ op=5:=by omega
 have h6:¬ op=6:=by omega
 have h7:¬ op=7:=by omega
 have H:=Ya (show Qx st ow dl op client now=1 by simp[Qx,h1,h2,h3,h4,h5,h6,h7]);go_enter Tryz.func160,Tryz.ntmps160;go_wp2_with (go_at_call 163;refine(Qt _ _ _ _ _ _).mono ?_;rintro e w1 ⟨rfl,hy⟩;(first|(have hx:=hx.trans hy)|(have hx:=hy));have hc:=fun i=>hx.cell (p:=⟨w.heap.size,i,none⟩) (by first|(simp;done)|(simp;omega));have hz:=fun i=>hx.frozen (p:=⟨w.heap.size,i,none⟩) (by first|(simp;done)|(simp;omega));have hs:w.heap.size+1≤w1.heap.size:=by(have hs1:=hx.size;simp at hs1;omega));go_ret;exact⟨by rw[H.o];rfl,(by repeat' first|exact Yn _|assumption|apply Ym|apply Yl|apply Yk|(refine Yj ?_ (by assumption)))⟩
theorem Zny{st dl now:Int}(h:Uh st dl now=true):st=2∨st=1:=by
 simp[Uh]at h;omega
theorem Zsu(st ow dl op client now:Int)(nm:ByteArray)(w:World) :
 Calls Tryz.prog 102 #[.agg #[.int .i64 st,.int .i64 ow,.string nm,.int .i64 dl],.int .i64 op,.int .i64 client,.int .i64 now] w fun e w'=>e=.returned (.int .i64 (Qx st ow dl op client now))∧Ext w w':=by
 rcases Zth op with rfl|rfl|rfl|rfl|rfl|rfl|rfl|h
 case' inr.inr.inr.inr.inr.inr.inr =>
  have h1:¬ op=1:=by omega
  have h2:¬ op=2:=by omega
  have h3:¬ op=3:=by omega
  have h4:¬ op=4:=by omega
  have h5:¬ op=5:=by omega
  have h6:¬ op=6:=by omega
  have h7:¬ op=7:=by omega
  have hl:=True.intro;rcases h with h|h
 case' inr.inr.inr.inr.inr.inr.inr.inr=>have h':¬ op<1:=by omega
 case' inr.inr.inr.inr.inr.inl =>
  by_cases hs:st=0
  try subst hs
 all_goals try cases hl:Uh st dl now
 all_goals try(rcases Zny hl with rfl|rfl<;>(by_cases ho:ow=client;try subst ho))
 all_goals
  go_enter Tryz.func102,Tryz.ntmps102;go_wp2_with (go_at_call 104;refine(Te _ _ _ _ _ _).mono ?_;rintro e w1 ⟨rfl,hy⟩;(first|(have hx:=hx.trans hy)|(have hx:=hy));have hc:=fun i=>hx.cell (p:=⟨w.heap.size,i,none⟩) (by first|(simp;done)|(simp;omega));have hz:=fun i=>hx.frozen (p:=⟨w.heap.size,i,none⟩) (by first|(simp;done)|(simp;omega));have hs:w.heap.size+1≤w1.heap.size:=by(have hs1:=hx.size;simp at hs1;omega));go_ret;exact⟨by simp[Qx,Jq, *],(by repeat' first|exact Yn _|assumption|apply Ym|apply Yl|apply Yk|(refine Yj ?_ (by assumption)))⟩
def Dl(n:Nm):List Value:=[.string n.a,.string n.u,.string n.k]
def Wl:List Nm→List Value
 | []=>[]
 | n::r=>Dl n++Wl r
theorem Av:∀ l:List Nm,(Wl l).length=l.length*3
 | []=>rfl
 | n::r=>by rw[Wl,Zs,Av r];simp[Dl];omega
theorem Ue:∀ a b:List Nm,Wl (a++b)=Wl a++Wl b
 | [],_=>rfl
 | n::r,b=>by simp[Wl,Ue r b]
theorem Lf:∀ {l:List Nm} {j:Nat} {n:Nm},l[j]?=some n→(Wl l)[j*3]?=some (.string n.a)∧(Wl l)[j*3+1]?=some (.string n.u)∧(Wl l)[j*3+2]?=some (.string n.k)
 | m::r,0,n,h=>by
  simp only[Zx,Yf]at h;subst h;simp[Wl,Dl]
 | m::r,j+1,n,h=>by
  obtain⟨h1,h2,h3⟩:=Lf (l:=r) (j:=j) (n:=n) (by simpa using h);have hm:(Dl m).length=3:=rfl;have e:∀ k,(Wl (m::r))[(j+1)*3+k]?=(Wl r)[j*3+k]?:=fun k=>by
   rw[Wl,Zd (by omega),hm];congr 1;omega
  refine⟨?_,?_,?_⟩
  ·have:=e 0;simp only[Zko]at this;rw[this,h1]
  ·rw[e 1,h2]
  rw[e 2,h3]
theorem Tj(l:List Nm):∀ u∈Wl l,u.oneCell'=true:=by
 induction l with
 | nil=>simp[Wl]
 | cons n r ih =>
  intro u hu;rw[Wl,Zj]at hu;rcases hu with hu|hu
  ·simp only[Dl,Zg,Zh,Zkh]at hu;rcases hu with rfl|rfl|rfl<;>rfl
  exact ih u hu
def Wb(w:World)(S:Nat→Prop)(v:Value)(l:List Nm):Prop:=Rd w S 3 v l.length (Wl l)
theorem Wb.get{w:World}{S:Nat→Prop}{v:Value}{l:List Nm}(h:Wb w S v l){j:Nat}(hj:j<l.length) :
 ∃ g o c,v=.slice (some ⟨g,o,none⟩) l.length c∧l.length≤c∧c≤maxLen∧S g∧g<w.heap.size∧∀ i n,l[i]?=some n→w.cell? ⟨g,o+i*3,none⟩=some (.string n.a)∧w.cell? ⟨g,o+i*3+1,none⟩=some (.string n.u)∧w.cell? ⟨g,o+i*3+2,none⟩=some (.string n.k):=by
 obtain⟨g,o,c,h1,h2,h3,h4,h5,h6⟩:=h.at_ hj;refine⟨g,o,c,h1,h2,h3,h4,h5,fun i n hi=>?_⟩;obtain⟨q1,q2,q3⟩:=Lf hi;exact⟨h6 _ _ q1,by rw[Zkf];exact h6 _ _ q2,by rw[Zkf];exact h6 _ _ q3⟩
theorem Wb.ext{w w':World}{S:Nat→Prop}{v:Value}{l:List Nm}(h:Wb w S v l)(x:Ext w w'):Wb w' S v l:=Rd.ext h x
theorem Wb.shape{w:World}{S:Nat→Prop}{v:Value}{l:List Nm}(h:Wb w S v l):∃ A c,v=.slice A l.length c:=by
 obtain⟨_,A,c,h,_⟩:=h;exact⟨A,c,h⟩
def Gd(n:Nm):List UInt8:=n.k.data.toList
theorem Mj:∀ l:List Nm,srt l=true↔∀ i a b,l[i]?=some a→l[i+1]?=some b→Gd a<Gd b
 | []=>by simp[srt]
 | [x]=>by simp[srt]
 | x::y::r=>by
  rw[srt,Zkw,Zl5,Mj (y::r)];constructor
  ·rintro⟨h1,h2⟩ i a b ha hb;cases i with
   | zero=>simp at ha hb;subst ha hb;exact h1
   | succ i=>exact h2 i a b (by simpa using ha) (by simpa using hb)
  intro h;exact⟨h 0 x y rfl rfl,fun i a b ha hb=>h (i+1) a b (by simpa using ha) (by simpa using hb)⟩
theorem Pb{x s:ByteArray}(h:s.data.toList<x.data.toList):Op.bytesLess x.toList s.toList=false∧(x.toList==s.toList)=false:=by
 rw[Go.Proofs.bytesLess_eq,Zkv,Zkv];exact⟨by simpa using List.le_of_lt h,by simp;intro e;rw[e]at h;exact Zin _ h⟩
theorem Fr{x s:ByteArray}(h:¬ s.data.toList<x.data.toList):(Op.bytesLess x.toList s.toList||x.toList==s.toList)=true:=by
 rw[Go.Proofs.bytesLess_eq,Zkv,Zkv];by_cases e:x.data.toList=s.data.toList
 ·simp[e]
 have:=Bt (List.not_lt.1 h) e;simp[this]
theorem Oe{S:Nat→Prop}(v:Value)(l:List Nm)(w:World)(hn:Wb w S v l) :
 Calls Tryz.prog 155 #[v] w fun e w'=>e=.returned (.bool (srt l))∧Ext w w':=by
 obtain⟨A,c,rfl⟩:=hn.shape;have hlm:=hn.len;unfold maxLen at hlm;have Hn:=Ya hn;clear hn;go_enter Tryz.func155,Tryz.ntmps155;go_wp2_with fail;go_loopw [3] (fun o wr=>∃ i:Nat,1≤i∧o=.int .i64 (i:Int)∧(∀ j a b,j+1<i→l[j]?=some a→l[j+1]?=some b→Gd a<Gd b)∧(i=1∨i≤l.length)∧Ext w wr) (fun o _=>l.length+1-(intOf o).toNat);case atStart=>exact⟨1,Yp _,rfl,fun j a b h=>by omega,.inl rfl,Yn _⟩
 obtain⟨i,hi,rfl,hso,hil,hx⟩:=hrel;have Hso:=Ya hso;have Hx:=Ya hx;clear hso hx;by_cases hlt:i<l.length
 ·have hd:decide ((i:Int)<(l.length:Int))=true:=by simpa using hlt
  obtain⟨g,o,c',hv,hc1,hc2,_,hg,hcell⟩:=(Hn.o.ext Hx.o).get (j:=i) hlt;simp only[Yg,Zl2]at hv;obtain⟨rfl,rfl⟩:=hv;obtain⟨a,ha⟩:∃ a,l[i-1]?=some a:=⟨l[i-1],by simp⟩;obtain⟨b,hb⟩:∃ b,l[i]?=some b:=⟨l[i],by simp[hlt]⟩;have c1:=(hcell _ _ ha).2.2;have c2:=(hcell _ _ hb).2.2;obtain⟨p,rfl⟩:∃ p,i=p+1:=⟨i-1,by omega⟩;simp only[Zka]at ha c1;have q0:(0:Int)≤(p:Int):=by omega
  have q1:(p:Int)<(l.length:Int):=by omega
  have q2:(0:Int)≤((p+1:Nat):Int):=by omega
  have q3:((p+1:Nat):Int)<(l.length:Int):=by omega
  have q4:IntKind.i64.wrap (((p+1:Nat):Int)-1)=(p:Int):=by rw[Yr _ (by omega)];omega
  have q5:c≤9223372036854775807:=by unfold maxLen at hc2;omega
  have Ha:=Ya ha;have Hb:=Ya hb;clear hcell ha hb;by_cases hk:Gd a<Gd b
  ·obtain⟨f1,f2⟩:=Pb hk;have Hk:=Ya hk;clear hk;go_wp2_with fail;go_region;go_wp2_with fail;go_roundw;case rel =>
    refine⟨p+2,by omega,by go_num,fun j x y hj hx hy=>?_,by omega,Hx.o.drew⟩;by_cases hj2:j=p
    ·subst hj2;rw[Ha.o]at hx;rw[Hb.o]at hy;simp only[Yf]at hx hy;subst hx hy;exact Hk.o
    exact Hso.o j x y (by omega) hx hy
   simp[intOf];omega
  have f1:=Fr hk;have Hno:=Ya (show srt l=false from by
   rw[← Zht,Mj];intro h;exact hk (h p a b Ha.o Hb.o))
  clear hk;go_wp2_with fail;go_region;go_wp2_with fail;go_ret;exact⟨by rw[Hno.o];rfl,Hx.o.drew⟩
 have hd:decide ((i:Int)<(l.length:Int))=false:=by simp;omega
 have Hall:=Ya (show srt l=true from(Mj l).2 fun j a b ha hb=>Hso.o j a b (by have:=(Zr.1 hb).1;omega) ha hb);go_wp2_with fail;go_ret;exact⟨by rw[Hall.o];rfl,Hx.o⟩
theorem Ms{S:Nat→Prop}(v:Value)(l:List Nm)(w:World)(hn:Wb w S v l) :
 Calls Tryz.prog 82 #[v] w fun e w'=>e=.returned (.bool (srt l))∧Ext w w':=by
 obtain⟨A,c,rfl⟩:=hn.shape;have hlm:=hn.len;unfold maxLen at hlm;have Hn:=Ya hn;clear hn;go_enter Tryz.func82,Tryz.ntmps82;go_wp2_with fail;go_loopw [3] (fun o wr=>∃ i:Nat,1≤i∧o=.int .i64 (i:Int)∧(∀ j a b,j+1<i→l[j]?=some a→l[j+1]?=some b→Gd a<Gd b)∧(i=1∨i≤l.length)∧Ext w wr) (fun o _=>l.length+1-(intOf o).toNat);case atStart=>exact⟨1,Yp _,rfl,fun j a b h=>by omega,.inl rfl,Yn _⟩
 obtain⟨i,hi,rfl,hso,hil,hx⟩:=hrel;have Hso:=Ya hso;have Hx:=Ya hx;clear hso hx;by_cases hlt:i<l.length
 ·have hd:decide ((i:Int)<(l.length:Int))=true:=by simpa using hlt
  obtain⟨g,o,c',hv,hc1,hc2,_,hg,hcell⟩:=(Hn.o.ext Hx.o).get (j:=i) hlt;simp only[Yg,Zl2]at hv;obtain⟨rfl,rfl⟩:=hv;obtain⟨a,ha⟩:∃ a,l[i-1]?=some a:=⟨l[i-1],by simp⟩;obtain⟨b,hb⟩:∃ b,l[i]?=some b:=⟨l[i],by simp[hlt]⟩;have c1:=(hcell _ _ ha).2.2;have c2:=(hcell _ _ hb).2.2;obtain⟨p,rfl⟩:∃ p,i=p+1:=⟨i-1,by omega⟩;simp only[Zka]at ha c1;have q0:(0:Int)≤(p:Int):=by omega
  have q1:(p:Int)<(l.length:Int):=by omega
  have q2:(0:Int)≤((p+1:Nat):Int):=by omega
  have q3:((p+1:Nat):Int)<(l.length:Int):=by omega
  have q4:IntKind.i64.wrap (((p+1:Nat):Int)-1)=(p:Int):=by rw[Yr _ (by omega)];omega
  have q5:c≤9223372036854775807:=by unfold maxLen at hc2;omega
  have Ha:=Ya ha;have Hb:=Ya hb;clear hcell ha hb;by_cases hk:Gd a<Gd b
  ·obtain⟨f1,f2⟩:=Pb hk;have Hk:=Ya hk;clear hk;go_wp2_with fail;go_region;go_wp2_with fail;go_roundw;case rel =>
    refine⟨p+2,by omega,by go_num,fun j x y hj hx hy=>?_,by omega,Hx.o.drew⟩;by_cases hj2:j=p
    ·subst hj2;rw[Ha.o]at hx;rw[Hb.o]at hy;simp only[Yf]at hx hy;subst hx hy;exact Hk.o
    exact Hso.o j x y (by omega) hx hy
   simp[intOf];omega
  have f1:=Fr hk;have Hno:=Ya (show srt l=false from by
   rw[← Zht,Mj];intro h;exact hk (h p a b Ha.o Hb.o))
  clear hk;go_wp2_with fail;go_region;go_wp2_with fail;go_ret;exact⟨by rw[Hno.o];rfl,Hx.o.drew⟩
 have hd:decide ((i:Int)<(l.length:Int))=false:=by simp;omega
 have Hall:=Ya (show srt l=true from(Mj l).2 fun j a b ha hb=>Hso.o j a b (by have:=(Zr.1 hb).1;omega) ha hb);go_wp2_with fail;go_ret;exact⟨by rw[Hall.o];rfl,Hx.o⟩
def J0(n:Nm):Bool:=decide (1≤n.a.size)&&decide (n.a.size≤63)
structure Nj(cl client op ttl now:Int)(ns:List Nm):Prop where
 c0:0≤client
 c1:client<cl
 o0:1≤op
 o1:op≤7
 n0:0≤now
 n1:now≤1073741824
 t1:Wt op=true→1≤ttl∧ttl≤1073741824
 t0:Wt op=false→ttl=0
 l0:1≤ns.length
 l1:ns.length≤16
 q:op=7→ns.length≤1
 srt:srt ns=true
 good:ns.all J0=true
instance (cl client op ttl now:Int) (ns:List Nm):Decidable (Nj cl client op ttl now ns) :=
 decidable_of_iff (0≤client∧client<cl∧1≤op∧op≤7∧0≤now∧now≤1073741824∧(Wt op=true→1≤ttl∧ttl≤1073741824)∧(Wt op=false→ttl=0)∧1≤ns.length∧ns.length≤16∧(op=7→ns.length≤1)∧srt ns=true∧ns.all J0=true)
  ⟨fun⟨a,b,c,d,e,f,g,h,i,j,k,l,m⟩=>⟨a,b,c,d,e,f,g,h,i,j,k,l,m⟩,fun⟨a,b,c,d,e,f,g,h,i,j,k,l,m⟩=>⟨a,b,c,d,e,f,g,h,i,j,k,l,m⟩⟩
def Qf(cl client op ttl now:Int)(ns:List Nm):Bool:=decide (Nj cl client op ttl now ns)
structure Ad where
 e:Int
 at_:Int
 nm:ByteArray
 rc:Rc
 tick:Int
def rcV(r:Rc):Value:=.agg #[.int .i64 r.st,.int .i64 r.ow,.string r.nm,.int .i64 r.dl]
def Wu(r:Ad):Value:=.agg #[.int .i64 r.e,.int .i64 r.at_,.string r.nm,.int .i64 r.rc.st,.int .i64 r.rc.ow,.string r.rc.nm,.int .i64 r.rc.dl,.int .i64 r.tick]
def Ztj(cap op client now count:Int)(r:Rc):Int :=
 if Qx r.st r.ow r.dl op client now=0∧0<Xg r.st op∧cap≤count then 7 else Qx r.st r.ow r.dl op client now
def Jt(op count:Int)(r:Rc):Int:=if 0<Xg r.st op then count+1 else count
def Ql(cap op client now:Int):Nat→Int→List (Nm×Rc)→Option (Int×Nat×ByteArray)
 | _,_,[]=>none
 | i,count,p::l=>if Ztj cap op client now count p.2=0 then Ql cap op client now (i+1) (Jt op count p.2) l else some (Ztj cap op client now count p.2,i,p.1.a)
def We(cap op client ttl now count:Int)(ps:List (Nm×Rc)):Ad :=
 if Wt op=true∧1073741824-now<ttl then⟨8,-1,⟨#[]⟩,default,now⟩else
 match Ql cap op client now 0 count ps with
 | some (e,i,n)=>⟨e,i,n,default,now⟩
 | none=>⟨0,-1,⟨#[]⟩,match ps with | []=>default|p::_=>if op=7∧Uh p.2.st p.2.dl now=true then p.2 else default,now⟩
def Jx(op client dl:Int)(n:Nm)(r:Rc):Rc:=⟨Ks r.st op,Kt r.ow op client,Ku r.nm op n.a,J3 r.dl op dl⟩
def Kl(op client dl:Int)(l:List Kp)(ps:List (Nm×Rc)):List Kp:=ps.foldl (fun l p=>Ki l p.1.k (Jx op client dl p.1 p.2)) l
def Vq(l:List Kp)(ns:List Nm):List (Nm×Rc):=ns.map fun n=>(n,Vv l n.k)
def doR(cl cap:Int)(l:List Kp)(client op ttl now:Int)(ns:List Nm):Ad :=
 if Qf cl client op ttl now ns=true then We cap op client ttl now l.length (Vq l ns)else⟨1,-1,⟨#[]⟩,default,0⟩
def doL(cl cap:Int)(l:List Kp)(client op ttl now:Int)(ns:List Nm):List Kp :=
 if Qf cl client op ttl now ns=true∧(We cap op client ttl now l.length (Vq l ns)).e=0 then Kl op client (now+ttl) l (Vq l ns)else l
theorem Iq(l:List Kp)(ns:List Nm):(Vq l ns).length=ns.length:=by simp[Vq]
theorem Zpl{l:List Kp}{ns:List Nm}{i:Nat}{n:Nm}(h:ns[i]?=some n):(Vq l ns)[i]?=some (n,Vv l n.k):=by simp[Vq,h]
theorem Gr{α:Type}{l:List α}{i:Nat}{x:α}(h:l[i]?=some x):l.drop i=x::l.drop (i+1):=by
 obtain⟨hi,rfl⟩:=Zr.1 h;exact Zj9 hi
theorem take_at{α:Type}{l:List α}{i:Nat}{x:α}(h:l[i]?=some x):l.take (i+1)=l.take i++[x]:=by rw[Za,h];rfl
def Kd(op:Int)(count:Int)(ps:List (Nm×Rc)):Int:=ps.foldl (fun c p=>Jt op c p.2) count
theorem Zxc(op count:Int)(ps:List (Nm×Rc)):count≤Kd op count ps∧Kd op count ps≤count+ps.length:=by
 induction ps generalizing count with
 | nil=>simp[Kd]
 | cons p ps ih =>
  have:=ih (Jt op count p.2);have e:Kd op count (p::ps)=Kd op (Jt op count p.2) ps:=rfl;have hn:Jt op count p.2=count∨Jt op count p.2=count+1:=by unfold Jt;split<;>simp
  rw[e];simp only[Zl];omega
theorem Sm(op count:Int)(ps:List (Nm×Rc))(p:Nm×Rc):Kd op count (ps++[p])=Jt op (Kd op count ps) p.2:=by simp[Kd,Zji]
theorem Zrc{op client d d':Int}(h:Wt op=true→d=d')(n:Nm)(r:Rc):Jx op client d n r=Jx op client d' n r:=by
 unfold Jx;have:J3 r.dl op d=J3 r.dl op d':=by
  unfold J3;by_cases h1:op=1
  ·rw[Zlg h1,Zlg h1,h (by simp[Wt,h1])]
  rw[Zlk h1,Zlk h1];by_cases h2:op=2
  ·rw[Zlg h2,Zlg h2]
  rw[Zlk h2,Zlk h2];by_cases h3:op=3
  ·rw[Zlg h3,Zlg h3,h (by simp[Wt,h3])]
  rw[Zlk h3,Zlk h3]
 rw[this]
theorem Az(st op:Int):Xg st op=1∨Xg st op=0∨Xg st op = -1:=by by_cases h1:op=1<;>by_cases h2:st=0<;>by_cases h3:op=4∨op=5∨op=6<;>simp[Xg,h1,h2,h3]
structure Qy(cap op client now count:Int)(ps:List (Nm×Rc))(i:Nat)(c:Int):Prop where
 le:i≤ps.length
 cnt:c=Kd op count (ps.take i)
 go:Ql cap op client now 0 count ps=Ql cap op client now i c (ps.drop i)
theorem Qy.start(cap op client now count:Int)(ps:List (Nm×Rc)):Qy cap op client now count ps 0 count:=⟨Zl1 _,rfl,rfl⟩
theorem Qy.bd{cap op client now count c:Int}{ps:List (Nm×Rc)}{i:Nat}(h:Qy cap op client now count ps i c):count≤c∧c≤count+i:=by
 have:=Zxc op count (ps.take i);rw[← h.cnt,Zp]at this;omega
theorem Qy.next{cap op client now count c:Int}{ps:List (Nm×Rc)}{i:Nat}{p:Nm×Rc}(h:Qy cap op client now count ps i c)(hp:ps[i]?=some p)(h0:Ztj cap op client now c p.2=0) :
 Qy cap op client now count ps (i+1) (Jt op c p.2):=by
 have hi:=(Zr.1 hp).1;refine⟨hi,?_,?_⟩
 ·rw[take_at hp,Sm,← h.cnt]
 rw[h.go,Gr hp,Ql,Zlg h0]
theorem Qy.stop{cap op client now count c:Int}{ps:List (Nm×Rc)}{i:Nat}{p:Nm×Rc}(h:Qy cap op client now count ps i c)(hp:ps[i]?=some p)(h0:Ztj cap op client now c p.2≠0) :
 Ql cap op client now 0 count ps=some (Ztj cap op client now c p.2,i,p.1.a):=by
 rw[h.go,Gr hp,Ql,Zlk h0]
theorem Qy.done{cap op client now count c:Int}{ps:List (Nm×Rc)}(h:Qy cap op client now count ps ps.length c):Ql cap op client now 0 count ps=none:=by
 rw[h.go,List.drop_length,Ql]
end Go.Proofs.YtnbclgbicnpmnaaGreat
