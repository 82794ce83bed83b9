import Derived.Test.YtndjmihnknjaeaaGreatGaB
import Derived.Test.YtndjmihnknjaeaaGreatChecked
/- A text of the proof. -/
set_option linter.all false
set_option maxRecDepth 100000
set_option maxHeartbeats 2000000
namespace Go.P
open Go.Sim (fY gE eY IFn Tab)
open Go.Proofs
def ix9:Go.Sim.IFn:={ntmps:=58,res:=[.tmp 0],body:=(.seq (.reg [⟨some 0,.mov,[.c (.v (.bool false))],none⟩]) (.seq (.reg [⟨some 6,.callF 25,[],none⟩,⟨some 1,.alloc 27 [(.string ⟨#[]⟩),(.bool false),(.slice none 0 0),(.slice none 0 0),(.slice none 0 0),(.slice none 0 0)],[],none⟩,⟨none,.store 6,[.t 1,.t 6],none⟩]) (.seq (.regD [⟨some 7,.fad 3,[.t 1],none⟩,⟨some 8,.loadS,[.t 7],none⟩,⟨some 9,.fad 3,[.t 1],none⟩,⟨some 10,.loadS,[.t 9],none⟩,⟨some 11,.iad 22,[.t 8,.c (.v (.int .i64 0))],none⟩,⟨some 12,.fad 12,[.t 11],none⟩,⟨none,.store 1,[.t 12,.c (.v (.bool true))],none⟩,⟨some 13,.iad 22,[.t 10,.c (.v (.int .i64 2))],none⟩,⟨some 14,.fad 13,[.t 13],none⟩,⟨none,.store 1,[.t 14,.c (.v (.int .i64 2))],none⟩] [0,1,0,4,3,19,51,127,255,511]) (.seq (.reg [⟨some 16,.loadA 6,[.t 1],none⟩,⟨some 17,.callF 10,[.t 16],none⟩,⟨some 15,.mov,[.t 17],none⟩,⟨some 18,.ext 0,[.t 15],none⟩,⟨some 19,.ext 1,[.t 15],none⟩,⟨some 2,.mov,[.t 18],none⟩,⟨some 3,.mov,[.t 19],none⟩]) (.seq (.reg [⟨some 20,.buildSl 3 1 7 [(.int .i64 0)] [0,1,2,3,4,5,6],[.c (.v (.int .i64 0)),.c (.v (.int .i64 1)),.c (.v (.int .i64 2)),.c (.v (.int .i64 0)),.c (.v (.int .i64 1)),.c (.v (.int .i64 2)),.c (.v (.int .i64 3))],none⟩,⟨some 4,.mov,[.t 20],none⟩]) (.seq (.seq (.reg [⟨some 21,.mov,[.t 3],none⟩,⟨some 22,.bin .neq,[.t 21,.c (.v (.int .i64 0))],none⟩,⟨some 23,.mov,[.t 22],none⟩,⟨some 24,.mov,[.t 2],some (23,false)⟩,⟨some 25,.len 0,[.t 24],some (23,false)⟩,⟨some 26,.mov,[.t 4],some (23,false)⟩,⟨some 27,.len 0,[.t 26],some (23,false)⟩,⟨some 28,.bin .neq,[.t 25,.t 27],some (23,false)⟩,⟨some 29,.pick,[.t 23,.c (.v (.bool true)),.t 28],none⟩]) (.cond (.t 29) (.seq (.reg [⟨some 0,.mov,[.c (.v (.bool false))],none⟩]) .ret) .skip)) (.seq (.seq (.reg [⟨some 5,.mov,[.c (.v (.int .i64 0))],none⟩]) (.block 0 (.loop (.seq (.seq (.reg [⟨some 30,.mov,[.t 5],none⟩,⟨some 31,.mov,[.t 4],none⟩,⟨some 32,.len 0,[.t 31],none⟩,⟨some 33,.bin .lss,[.t 30,.t 32],none⟩]) (.cond (.t 33) .skip (.exit 0))) (.seq (.block 1 (.seq (.regD [⟨some 36,.mov,[.t 2],none⟩,⟨some 37,.mov,[.t 5],none⟩,⟨some 38,.iad 2,[.t 36,.t 37],none⟩,⟨some 39,.fad 0,[.t 38],none⟩,⟨some 40,.loadS,[.t 39],none⟩,⟨some 41,.mov,[.t 4],none⟩,⟨some 42,.mov,[.t 5],none⟩,⟨some 43,.iad 1,[.t 41,.t 42],none⟩,⟨some 44,.loadS,[.t 43],none⟩,⟨some 45,.bin .neq,[.t 40,.t 44],none⟩] [0,0,3,7,15,0,0,96,224,511]) (.cond (.t 45) (.seq (.reg [⟨some 0,.mov,[.c (.v (.bool false))],none⟩]) .ret) .skip))) (.reg [⟨some 34,.mov,[.t 5],none⟩,⟨some 35,.bin .add,[.t 34,.c (.v (.int .i64 1))],none⟩,⟨some 5,.mov,[.t 35],none⟩])))))) (.seq (.reg [⟨some 46,.mov,[.t 2],none⟩,⟨some 47,.iad 2,[.t 46,.c (.v (.int .i64 3))],none⟩,⟨some 48,.fad 1,[.t 47],none⟩,⟨some 49,.loadS,[.t 48],none⟩,⟨some 50,.bin .eql,[.t 49,.c (.v (.int .i64 1))],none⟩,⟨some 51,.mov,[.t 50],none⟩,⟨some 52,.mov,[.t 2],some (51,true)⟩,⟨some 53,.iad 2,[.t 52,.c (.v (.int .i64 6))],some (51,true)⟩,⟨some 54,.fad 1,[.t 53],some (51,true)⟩,⟨some 55,.loadS,[.t 54],some (51,true)⟩,⟨some 56,.bin .eql,[.t 55,.c (.v (.int .i64 0))],some (51,true)⟩,⟨some 57,.pick,[.t 51,.t 56,.c (.v (.bool false))],none⟩,⟨some 0,.mov,[.t 57],none⟩]) .ret)))))))),pure:=true,frz:=true}
def ix25:Go.Sim.IFn:={ntmps:=40,res:=[.cellA 0 6],body:=(.seq (.reg [⟨some 0,.alloc 27 [(.string ⟨#[]⟩),(.bool false),(.slice none 0 0),(.slice none 0 0),(.slice none 0 0),(.slice none 0 0)],[],none⟩]) (.seq (.reg [⟨some 4,.build [(.int .i64 0),(.int .i64 0)] [(1,1)],[.c (.v (.int .i64 1))],none⟩,⟨some 5,.build [(.int .i64 0),(.int .i64 0)] [(1,1)],[.c (.v (.int .i64 2))],none⟩,⟨some 6,.build [(.int .i64 0),(.int .i64 0),(.int .i64 0)] [(0,2),(2,1)],[.t 5,.c (.v (.int .i64 1))],none⟩,⟨some 7,.buildSl 106 3 1 [(.int .i64 0),(.int .i64 0),(.int .i64 0)] [0],[.t 6],none⟩,⟨some 8,.build [(.int .i64 0),(.int .i64 0),(.string ⟨#[]⟩),(.int .i64 0),(.int .i64 0),(.slice none 0 0)] [(0,2),(5,1)],[.t 4,.t 7],none⟩,⟨some 9,.buildSl 65 6 1 [(.int .i64 0),(.int .i64 0),(.string ⟨#[]⟩),(.int .i64 0),(.int .i64 0),(.slice none 0 0)] [0],[.t 8],none⟩,⟨some 10,.build [(.int .i64 0),(.int .i64 0)] [(1,1)],[.c (.v (.int .i64 10))],none⟩,⟨some 11,.buildSl 43 2 1 [(.int .i64 0),(.int .i64 0)] [0],[.t 10],none⟩,⟨some 12,.build [(.string ⟨#[]⟩),(.bool false),(.slice none 0 0),(.slice none 0 0),(.slice none 0 0),(.slice none 0 0)] [(2,1),(5,1)],[.t 9,.t 11],none⟩,⟨some 1,.alloc 27 [(.string ⟨#[]⟩),(.bool false),(.slice none 0 0),(.slice none 0 0),(.slice none 0 0),(.slice none 0 0)],[],none⟩,⟨none,.store 6,[.t 1,.t 12],none⟩]) (.seq (.seq (.reg [⟨some 2,.mov,[.c (.v (.int .i64 0))],none⟩]) (.block 0 (.loop (.seq (.seq (.reg [⟨some 13,.mov,[.t 2],none⟩,⟨some 14,.bin .lss,[.t 13,.c (.v (.int .i64 4))],none⟩]) (.cond (.t 14) .skip (.exit 0))) (.seq (.block 1 (.seq (.reg [⟨some 17,.mov,[.t 2],none⟩,⟨some 18,.bin .mul,[.c (.v (.int .i64 2)),.t 17],none⟩,⟨some 19,.bin .add,[.c (.v (.int .i64 4)),.t 18],none⟩,⟨some 20,.build [(.int .i64 0),(.int .i64 0)] [(1,1)],[.t 19],none⟩,⟨some 21,.build [(.int .i64 0),(.int .i64 0),(.int .i64 0),(.int .i64 0),(.int .i64 0),(.slice none 0 0),(.slice none 0 0),(.int .i64 0),(.int .i64 0),(.int .i64 0),(.slice none 0 0),(.int .i64 0),(.int .i64 0)] [(0,2),(2,1)],[.t 20,.c (.v (.int .i64 3))],none⟩,⟨some 3,.alloc 95 [(.int .i64 0),(.int .i64 0),(.int .i64 0),(.int .i64 0),(.int .i64 0),(.slice none 0 0),(.slice none 0 0),(.int .i64 0),(.int .i64 0),(.int .i64 0),(.slice none 0 0),(.int .i64 0),(.int .i64 0)],[],none⟩,⟨none,.store 13,[.t 3,.t 21],none⟩]) (.reg [⟨some 22,.fad 3,[.t 1],none⟩,⟨some 23,.loadS,[.t 22],none⟩,⟨some 24,.mov,[.t 2],none⟩,⟨some 25,.bin .mul,[.c (.v (.int .i64 2)),.t 24],none⟩,⟨some 26,.bin .add,[.c (.v (.int .i64 3)),.t 25],none⟩,⟨some 27,.build [(.int .i64 0),(.int .i64 0)] [(1,1)],[.t 26],none⟩,⟨some 28,.build [(.int .i64 0),(.int .i64 0),(.int .i64 0),(.int .i64 0),(.int .i64 0),(.int .i64 0),(.int .i64 0),(.int .i64 0)] [(0,1),(1,1)],[.c (.v (.int .i64 4)),.c (.v (.int .i64 4))],none⟩,⟨some 29,.loadA 13,[.t 3],none⟩,⟨some 30,.buildSl 95 13 1 [(.int .i64 0),(.int .i64 0),(.int .i64 0),(.int .i64 0),(.int .i64 0),(.slice none 0 0),(.slice none 0 0),(.int .i64 0),(.int .i64 0),(.int .i64 0),(.slice none 0 0),(.int .i64 0),(.int .i64 0)] [0],[.t 29],none⟩,⟨some 31,.build [(.slice none 0 0),(.slice none 0 0)] [(0,1)],[.t 30],none⟩,⟨some 32,.buildSl 74 2 1 [(.slice none 0 0),(.slice none 0 0)] [0],[.t 31],none⟩,⟨some 33,.build [(.slice none 0 0),(.slice none 0 0)] [(1,1)],[.t 32],none⟩,⟨some 34,.buildSl 69 2 1 [(.slice none 0 0),(.slice none 0 0)] [0],[.t 33],none⟩,⟨some 35,.build [(.int .i64 0),(.int .i64 0),(.int .i64 0),(.int .i64 0),(.int .i64 0),(.int .i64 0),(.int .i64 0),(.int .i64 0),(.int .i64 0),(.int .i64 0),(.int .i64 0),(.int .i64 0),(.bool false),(.int .i64 0),(.int .i64 0),(.int .i64 0),(.int .i64 0),(.int .i64 0),(.int .i64 0),(.string ⟨#[]⟩),(.slice none 0 0),(.slice none 0 0)] [(0,2),(2,8),(21,1)],[.t 27,.t 28,.t 34],none⟩,⟨some 36,.buildSl 50 22 1 [(.int .i64 0),(.int .i64 0),(.int .i64 0),(.int .i64 0),(.int .i64 0),(.int .i64 0),(.int .i64 0),(.int .i64 0),(.int .i64 0),(.int .i64 0),(.int .i64 0),(.int .i64 0),(.bool false),(.int .i64 0),(.int .i64 0),(.int .i64 0),(.int .i64 0),(.int .i64 0),(.int .i64 0),(.string ⟨#[]⟩),(.slice none 0 0),(.slice none 0 0)] [0],[.t 35],none⟩,⟨some 37,.append 50 22 216 [(.int .i64 0),(.int .i64 0),(.int .i64 0),(.int .i64 0),(.int .i64 0),(.int .i64 0),(.int .i64 0),(.int .i64 0),(.int .i64 0),(.int .i64 0),(.int .i64 0),(.int .i64 0),(.bool false),(.int .i64 0),(.int .i64 0),(.int .i64 0),(.int .i64 0),(.int .i64 0),(.int .i64 0),(.string ⟨#[]⟩),(.slice none 0 0),(.slice none 0 0)] false,[.t 23,.t 36],none⟩,⟨some 38,.fad 3,[.t 1],none⟩,⟨none,.store 1,[.t 38,.t 37],none⟩]))) (.reg [⟨some 15,.mov,[.t 2],none⟩,⟨some 16,.bin .add,[.t 15,.c (.v (.int .i64 1))],none⟩,⟨some 2,.mov,[.t 16],none⟩])))))) (.seq (.reg [⟨some 39,.loadA 6,[.t 1],none⟩,⟨none,.store 6,[.t 0,.t 39],none⟩]) .ret)))),pure:=false,frz:=false}
def bI:Nat->Option Go.Sim.IFn
 |9=>some ix9
 |25=>some ix25
 |181=>some (fX 171 5 40 [(.int .i64 0),(.int .i64 0),(.int .i64 0),(.bool false),(.int .i64 0)])
 |182=>some (fX 175 5 40 [(.int .i64 0),(.int .i64 0),(.int .i64 0),(.int .i64 0),(.bool false)])
 |183=>some (fX 104 2 24 [(.string ⟨#[]⟩),(.int .i64 0)])
 |_=>none
def tI:Nat->List (Option PFn)->List (Option IFn)
 |_,[]=>[]
 |i,none::r=>bI i::tI (i+1) r
 |i,some p::r=>some (toI (NF40 i) p)::tI (i+1) r
theorem aU1:∀(l:List (Option PFn)) (i j:Nat) (fn:PFn),l[j]? =some (some fn)->(tI i l)[j]? =some (some (toI (NF40 (i+j)) fn))
 |[],i,j,fn,h=>by simp at h
 |none::r,i,0,fn,h=>by simp at h
 |none::r,i,j+1,fn,h=>by
  have:=aU1 r (i+1) j fn (by simpa using h)
  rw[show i+1+j=i+(j+1)by omega]at this
  simpa[tI]using this
 |some p::r,i,0,fn,h=>by simp at h;subst h;rfl
 |some p::r,i,j+1,fn,h=>by
  have:=aU1 r (i+1) j fn (by simpa using h)
  rw[show i+1+j=i+(j+1)by omega]at this
  simpa[tI]using this
def tl:List (Option IFn):=tI 0 pl
def T40:Tab:=fun f=>(tl[f]?).join
def okE (o:Option PFn):Bool:=match o with|some fn=>okP NF40 fn.ntmps false fn.code|none=>true
theorem iY1:pl.all okE=true:=by kernel_rfl
theorem iB1 (f:Nat) (fn:PFn) (h:P40 f=some fn):T40 f=some (toI (NF40 f) fn)/\okP NF40 fn.ntmps false fn.code=true:=by
 have h1:pl[f]? =some (some fn):=by
  unfold P40 at h
  cases hl:pl[f]? with
  |none=>rw[hl]at h;cases h
  |some o=>rw[hl]at h;cases o with
   |none=>cases h
   |some q=>cases h;rfl
 refine⟨?_,?_⟩
 .have:=aU1 pl 0 f fn h1
  rw[Nat.zero_add]at this
  unfold T40 tl
  rw[this];rfl
 .exact List.all_eq_true.1 iY1 _ (List.mem_of_getElem? h1)
theorem iC1:fY Tryz.prog T40:=gE.tab (l:=tl) (gE.of (i:=0) (fs:=Tryz.prog.funcs.toList) rfl (by kernel_rfl))
end Go.P
