import Derived.Test.YtflklffaiianhaaGreatGaB
import Derived.Test.YtflklffaiianhaaGreatChecked
/- A text of the proof. -/
set_option linter.all false
set_option maxRecDepth 100000
set_option maxHeartbeats 2000000
namespace Go.P
open Go.Sim (gB gH fA IFn Tab)
open Go.Proofs
def i32:Go.Sim.IFn:={ntmps:=51,res:=[.cellA 0 6],body:=(.seq (.reg [⟨some 0,.alloc 27 [(.string ⟨#[]⟩),(.bool false),(.slice none 0 0),(.slice none 0 0),(.slice none 0 0),(.slice none 0 0)],[],none⟩]) (.seq (.reg [⟨some 4,.build [(.int .i64 0),(.int .i64 0)] [(1,1)],[.c (.v (.int .i64 1))],none⟩,⟨some 5,.build [(.int .i64 0),(.int .i64 0)] [(1,1)],[.c (.v (.int .i64 2))],none⟩,⟨some 6,.build [(.int .i64 0),(.int .i64 0),(.int .i64 0)] [(0,2),(2,1)],[.t 5,.c (.v (.int .i64 1))],none⟩,⟨some 7,.buildSl 134 3 1 [(.int .i64 0),(.int .i64 0),(.int .i64 0)] [0],[.t 6],none⟩,⟨some 8,.build [(.int .i64 0),(.int .i64 0),(.string ⟨#[]⟩),(.int .i64 0),(.int .i64 0),(.slice none 0 0)] [(0,2),(5,1)],[.t 4,.t 7],none⟩,⟨some 9,.buildSl 77 6 1 [(.int .i64 0),(.int .i64 0),(.string ⟨#[]⟩),(.int .i64 0),(.int .i64 0),(.slice none 0 0)] [0],[.t 8],none⟩,⟨some 10,.build [(.int .i64 0),(.int .i64 0)] [(1,1)],[.c (.v (.int .i64 12))],none⟩,⟨some 11,.buildSl 53 2 1 [(.int .i64 0),(.int .i64 0)] [0],[.t 10],none⟩,⟨some 12,.build [(.string ⟨#[]⟩),(.bool false),(.slice none 0 0),(.slice none 0 0),(.slice none 0 0),(.slice none 0 0)] [(2,1),(5,1)],[.t 9,.t 11],none⟩,⟨some 1,.alloc 27 [(.string ⟨#[]⟩),(.bool false),(.slice none 0 0),(.slice none 0 0),(.slice none 0 0),(.slice none 0 0)],[],none⟩,⟨none,.store 6,[.t 1,.t 12],none⟩]) (.seq (.seq (.reg [⟨some 2,.mov,[.c (.v (.int .i64 0))],none⟩]) (.block 0 (.loop (.seq (.seq (.reg [⟨some 13,.mov,[.t 2],none⟩,⟨some 14,.bin .lss,[.t 13,.c (.v (.int .i64 5))],none⟩]) (.cond (.t 14) .skip (.exit 0))) (.seq (.block 1 (.seq (.reg [⟨some 17,.mov,[.t 2],none⟩,⟨some 18,.bin .mul,[.c (.v (.int .i64 2)),.t 17],none⟩,⟨some 19,.bin .add,[.c (.v (.int .i64 4)),.t 18],none⟩,⟨some 20,.build [(.int .i64 0),(.int .i64 0)] [(1,1)],[.t 19],none⟩,⟨some 21,.build [(.int .i64 0),(.int .i64 0),(.int .i64 0),(.int .i64 0),(.int .i64 0),(.slice none 0 0),(.slice none 0 0),(.int .i64 0),(.int .i64 0),(.int .i64 0),(.slice none 0 0),(.int .i64 0),(.int .i64 0)] [(0,2),(2,1)],[.t 20,.c (.v (.int .i64 3))],none⟩,⟨some 3,.alloc 109 [(.int .i64 0),(.int .i64 0),(.int .i64 0),(.int .i64 0),(.int .i64 0),(.slice none 0 0),(.slice none 0 0),(.int .i64 0),(.int .i64 0),(.int .i64 0),(.slice none 0 0),(.int .i64 0),(.int .i64 0)],[],none⟩,⟨none,.store 13,[.t 3,.t 21],none⟩]) (.seq (.seq (.reg [⟨some 22,.mov,[.t 2],none⟩,⟨some 23,.bin .eql,[.t 22,.c (.v (.int .i64 0))],none⟩,⟨some 24,.mov,[.t 23],none⟩,⟨some 25,.mov,[.t 2],some (24,false)⟩,⟨some 26,.bin .eql,[.t 25,.c (.v (.int .i64 4))],some (24,false)⟩,⟨some 27,.pick,[.t 24,.c (.v (.bool true)),.t 26],none⟩]) (.cond (.t 27) (.reg [⟨some 28,.build [(.int .i64 0),(.int .i64 0),(.int .i64 0)] [(2,1)],[.c (.v (.int .i64 4))],none⟩,⟨some 29,.build [(.int .i64 0),(.int .i64 0),(.int .i64 0),(.bool false),(.int .i64 0)] [(0,3)],[.t 28],none⟩,⟨some 30,.buildSl 138 5 1 [(.int .i64 0),(.int .i64 0),(.int .i64 0),(.bool false),(.int .i64 0)] [0],[.t 29],none⟩,⟨some 31,.fad 2,[.t 3],none⟩,⟨none,.store 1,[.t 31,.c (.v (.int .i64 1))],none⟩,⟨some 32,.fad 5,[.t 3],none⟩,⟨none,.store 1,[.t 32,.t 30],none⟩]) .skip)) (.reg [⟨some 33,.fad 3,[.t 1],none⟩,⟨some 34,.loadS,[.t 33],none⟩,⟨some 35,.mov,[.t 2],none⟩,⟨some 36,.bin .mul,[.c (.v (.int .i64 2)),.t 35],none⟩,⟨some 37,.bin .add,[.c (.v (.int .i64 3)),.t 36],none⟩,⟨some 38,.build [(.int .i64 0),(.int .i64 0)] [(1,1)],[.t 37],none⟩,⟨some 39,.build [(.int .i64 0),(.int .i64 0),(.int .i64 0),(.int .i64 0),(.int .i64 0),(.int .i64 0),(.int .i64 0),(.int .i64 0)] [(0,1),(1,1)],[.c (.v (.int .i64 4)),.c (.v (.int .i64 4))],none⟩,⟨some 40,.loadA 13,[.t 3],none⟩,⟨some 41,.buildSl 109 13 1 [(.int .i64 0),(.int .i64 0),(.int .i64 0),(.int .i64 0),(.int .i64 0),(.slice none 0 0),(.slice none 0 0),(.int .i64 0),(.int .i64 0),(.int .i64 0),(.slice none 0 0),(.int .i64 0),(.int .i64 0)] [0],[.t 40],none⟩,⟨some 42,.build [(.slice none 0 0),(.slice none 0 0)] [(0,1)],[.t 41],none⟩,⟨some 43,.buildSl 86 2 1 [(.slice none 0 0),(.slice none 0 0)] [0],[.t 42],none⟩,⟨some 44,.build [(.slice none 0 0),(.slice none 0 0)] [(1,1)],[.t 43],none⟩,⟨some 45,.buildSl 81 2 1 [(.slice none 0 0),(.slice none 0 0)] [0],[.t 44],none⟩,⟨some 46,.build [(.int .i64 0),(.int .i64 0),(.int .i64 0),(.int .i64 0),(.int .i64 0),(.int .i64 0),(.int .i64 0),(.int .i64 0),(.int .i64 0),(.int .i64 0),(.int .i64 0),(.int .i64 0),(.bool false),(.int .i64 0),(.int .i64 0),(.int .i64 0),(.int .i64 0),(.int .i64 0),(.int .i64 0),(.string ⟨#[]⟩),(.slice none 0 0),(.slice none 0 0)] [(0,2),(2,8),(21,1)],[.t 38,.t 39,.t 45],none⟩,⟨some 47,.buildSl 60 22 1 [(.int .i64 0),(.int .i64 0),(.int .i64 0),(.int .i64 0),(.int .i64 0),(.int .i64 0),(.int .i64 0),(.int .i64 0),(.int .i64 0),(.int .i64 0),(.int .i64 0),(.int .i64 0),(.bool false),(.int .i64 0),(.int .i64 0),(.int .i64 0),(.int .i64 0),(.int .i64 0),(.int .i64 0),(.string ⟨#[]⟩),(.slice none 0 0),(.slice none 0 0)] [0],[.t 46],none⟩,⟨some 48,.append 60 22 216 [(.int .i64 0),(.int .i64 0),(.int .i64 0),(.int .i64 0),(.int .i64 0),(.int .i64 0),(.int .i64 0),(.int .i64 0),(.int .i64 0),(.int .i64 0),(.int .i64 0),(.int .i64 0),(.bool false),(.int .i64 0),(.int .i64 0),(.int .i64 0),(.int .i64 0),(.int .i64 0),(.int .i64 0),(.string ⟨#[]⟩),(.slice none 0 0),(.slice none 0 0)] false,[.t 34,.t 47],none⟩,⟨some 49,.fad 3,[.t 1],none⟩,⟨none,.store 1,[.t 49,.t 48],none⟩])))) (.reg [⟨some 15,.mov,[.t 2],none⟩,⟨some 16,.bin .add,[.t 15,.c (.v (.int .i64 1))],none⟩,⟨some 2,.mov,[.t 16],none⟩])))))) (.seq (.reg [⟨some 50,.loadA 6,[.t 1],none⟩,⟨none,.store 6,[.t 0,.t 50],none⟩]) .ret)))),pure:=true,frz:=true}
def bI:Nat->Option Go.Sim.IFn
 |32=>some i32
 |233=>some (gA 138 5 40 [(.int .i64 0),(.int .i64 0),(.int .i64 0),(.bool false),(.int .i64 0)])
 |234=>some (gA 197 5 40 [(.int .i64 0),(.int .i64 0),(.int .i64 0),(.int .i64 0),(.bool false)])
 |235=>some (gA 140 2 24 [(.string ⟨#[]⟩),(.int .i64 0)])
 |_=>none
def tI:Nat->List (Option PFn)->List (Option IFn)
 |_,[]=>[]
 |i,none::r=>bI i::tI (i+1) r
 |i,some p::r=>some (toI (NF40 i) p)::tI (i+1) r
theorem aW1:∀(l:List (Option PFn)) (i j:Nat) (fn:PFn),l[j]? =some (some fn)->(tI i l)[j]? =some (some (toI (NF40 (i+j)) fn))
 |[],i,j,fn,h=>by simp at h
 |none::r,i,0,fn,h=>by simp at h
 |none::r,i,j+1,fn,h=>by
  have:=aW1 r (i+1) j fn (by simpa using h)
  rw[show i+1+j=i+(j+1)by omega]at this
  simpa[tI]using this
 |some p::r,i,0,fn,h=>by simp at h;subst h;rfl
 |some p::r,i,j+1,fn,h=>by
  have:=aW1 r (i+1) j fn (by simpa using h)
  rw[show i+1+j=i+(j+1)by omega]at this
  simpa[tI]using this
def tl:List (Option IFn):=tI 0 pl
def T40:Tab:=fun f=>(tl[f]?).join
def okE (o:Option PFn):Bool:=match o with|some fn=>okP NF40 fn.ntmps false fn.code|none=>true
theorem iM1:pl.all okE=true:=by kernel_rfl
theorem cZ1 (f:Nat) (fn:PFn) (h:P40 f=some fn):T40 f=some (toI (NF40 f) fn)/\okP NF40 fn.ntmps false fn.code=true:=by
 have h1:pl[f]? =some (some fn):=by
  unfold P40 at h
  cases hl:pl[f]? with
  |none=>rw[hl]at h;cases h
  |some o=>rw[hl]at h;cases o with
   |none=>cases h
   |some q=>cases h;rfl
 refine⟨?_,?_⟩
 .have:=aW1 pl 0 f fn h1
  rw[Nat.zero_add]at this
  unfold T40 tl
  rw[this];rfl
 .exact List.all_eq_true.1 iM1 _ (List.mem_of_getElem? h1)
theorem wB:gB Tryz.prog T40:=gH.tab (l:=tl) (gH.of (i:=0) (fs:=Tryz.prog.funcs.toList) rfl (by kernel_rfl))
end Go.P
