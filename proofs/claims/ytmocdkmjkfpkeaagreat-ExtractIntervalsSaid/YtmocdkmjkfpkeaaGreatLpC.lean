import Derived.Test.YtmocdkmjkfpkeaaGreatLpB
/- A text of the proof. -/
set_option linter.all false
set_option maxRecDepth 100000
namespace Go.P
open Go.Sim (AV AO Hp IFn IC IX Ex iG exec)
def fY (ty esz k:Nat) (zero:aA Value):IFn:={ntmps:=8,res:=[.tmp 2],pure:=true,frz:=false,body:=(
  .seq (.reg [⟨some 2,.mov,[.c (.v (.slice none 0 0))],none⟩])
   (.seq (.seq (.reg [⟨some 3,.mov,[.t 0],none⟩,⟨some 4,.eqNil false 0,[.t 3,.c (.v (.slice none 0 0))],none⟩])
     (.cond (.t 4) (.seq (.reg [⟨some 2,.mov,[.c (.v (.slice none 0 0))],none⟩]) .ret) .skip))
   (.seq (.reg [⟨some 5,.buildSl ty esz 0 zero [],[],none⟩,⟨some 6,.mov,[.t 0],none⟩,⟨some 7,.append ty esz k zero false,[.t 5,.t 6],none⟩,⟨some 2,.mov,[.t 7],none⟩]) .ret)))}
section
variable {T:iG} (ty esz k:Nat) (zero:List Value) (d:Nat)
theorem Sh:Sim.body (exec T (d+8)) 0 (fY ty esz k zero) [.v (.slice none 0 0)] {h:=[],n:=0}=some (.v (.slice none 0 0),{h:=[],n:=0}):=rfl
theorem cY1:∃s,Sim.body (exec T (d+8)) 0 (fY ty esz k zero) [.is esz []] {h:=[],n:=0}=some (.sl esz 0 0 0 0 none,s)/\Sim.look s.h 0=some (.arr false ty esz 0 []):=by
 simp[Sim.body,exec,fY,Sim.runOps,Sim.wanted,Sim.evs,Sim.IX.ev,Sim.step,Sim.doOp,Sim.put,Sim.isNilv,Sim.appRows,Sim.rowsOf,Sim.appendTo,Sim.fillParts,Sim.look,Sim.results,Sim.mapO,Sim.readRes,Sim.Out.apply]
theorem cZ1 (r:aA AV) (a:aA (aA AV)) (h:(r::a).length<=1073741824):∃s,Sim.body (exec T (d+8)) 0 (fY ty esz k zero) [.is esz (r::a)] {h:=[],n:=0}=some (.sl esz 0 1 0 (r::a).length none,s)/\Sim.look s.h 0=some (.arr false ty esz 1 (r::a)):=by
 have b:Sim.maxRoom=1073741824:=rfl;simp only[oS2]at h;simp[Sim.body,exec,fY,Sim.runOps,Sim.wanted,Sim.evs,Sim.IX.ev,Sim.step,Sim.doOp,Sim.put,Sim.isNilv,Sim.appRows,Sim.rowsOf,Sim.appendTo,Sim.fillParts,Sim.look,Sim.results,Sim.mapO,Sim.readRes,Sim.Out.apply,b,h];rfl
theorem Ba {f:FuncId} {ty esz k:Nat} {zero:aA Value} (i:T f=some (fY ty esz k zero)) (j:∀ys,T.memo f ys=none) {rows:aA (aA PV)} (hl:rows.length<=1073741824):oD T f [.is esz rows] (.is esz rows):=by
 refine⟨_,i,rfl,fun h=>(by cases h),fun ys hy=>Fb (j ys) ⟨8,fun d hd=>?_⟩⟩;obtain⟨d,rfl⟩:∃g,d=g+8:=⟨d-8,by omega⟩
 obtain⟨y,l,rfl,h1,h2⟩:=hy.inv_cons;rw[h2.inv_nil];rcases vH (C:=⟨fun _=>none,fun _=>none,fun _=>none⟩) (.cl h1)with⟨rows',rfl,hr⟩|⟨rfl,rfl⟩
 cases rows' with
 |nil=>
  have:rows=[]:=pY2 hr.1;subst this;obtain⟨s,a,e2⟩:=cY1 (T:=T) ty esz k zero d;exact⟨_,_,_,a,Pf (d:=4) (rows:=[]) (oX2 _) e2 .nil (nM2 _),h1⟩
 |cons r rs=>
  obtain⟨s,a,e2⟩:=cZ1 (T:=T) ty esz k zero d r rs (by rw[<-hr.1];exact hl);have b:(r::rs).length=rows.length:=hr.1.symm;rw[b]at a;have e:(r::rs).take rows.length=r::rs:=by rw[<-b,pW2]
  have c:=Pf (n0:=0) (L:=Sim.look s.h) (d:=4) (rows:=rows) (id:=0) (oX2 _) e2 (by rw[e];exact hr) (by omega);rw[e]at c;exact⟨_,_,_,a,c,h1⟩
 exact⟨_,_,_,Sh ty esz k zero d,rfl,.isn⟩
end
end Go.P
namespace Go.P
open Go.Sim
section
variable {P:Program} {D:Nat} {t:TypeId} {cs:List AV}
theorem oQ {n:Nat} (h:n<=maxLen):n<9223372036854775808:=nO2 h (by decide)
theorem fL {k:IntKind} (a:P.underlying t=some (.int k)) (h:kQ P D t cs):∃n,LR (RC false) [.v (.int k n)] cs:=by
 cases D with
 |zero=>exact h.elim
 |succ D=>
  unfold kQ at h;rw[a]at h;obtain⟨n,rfl,_⟩:=h;exact⟨n,.cons (.v _) .nil⟩
theorem Jx (a:P.underlying t=some .bool) (h:kQ P D t cs):∃n,LR (RC false) [.v (.bool n)] cs:=by
 cases D with
 |zero=>exact h.elim
 |succ D=>
  unfold kQ at h;rw[a]at h;obtain⟨n,rfl⟩:=h;exact⟨n,.cons (.v _) .nil⟩
theorem dA1 (a:P.underlying t=some .string) (h:kQ P D t cs):∃s:ByteArray,s.size<=maxLen/\LR (RC false) [.v (.string s)] cs:=by
 cases D with
 |zero=>exact h.elim
 |succ D=>
  unfold kQ at h;rw[a]at h;obtain⟨s,rfl,hs⟩:=h;exact⟨s,hs,.cons (.v _) .nil⟩
theorem Pv {A:Type} {B:A->Prop} {c:A->aA PV} {e:TypeId} {m:Nat} (g:P.underlying t=some (.slice e)) (f:P.cellsOf e=m) (a:∀D row,kQ P D e row->∃x:A,B x/\LR (RC false) (c x) row) (hp:∀x,(c x).all eY=true) (h:kQ P D t cs):
  ∃l:aA A,(l.length<=maxLen/\∀x∈l,B x)/\LR (RC false) [.is m (l.map c)] cs:=by
 cases D with
 |zero=>exact h.elim
 |succ D=>
  unfold kQ at h;rw[g]at h;rcases h with rfl|⟨els,rfl,hl,h⟩
  exact⟨[],⟨oX2 _,fun x d=>(rD2 d).elim⟩,.cons .isn .nil⟩;rw[f]
  have:∃l:aA A,l.length=els.length/\(∀x∈l,B x)/\RR (l.map c) els:=by
   clear hl
   induction els with
   |nil=>exact⟨[],rfl,fun x d=>(rD2 d).elim,.nil⟩
   |cons row els ih=>
    obtain⟨l,h1,h2,b⟩:=ih (fun row a=>h row (by simp[a]));obtain⟨x,i,j⟩:=a D row (h row (by simp)).2;refine⟨x::l,by simp[h1],fun y hy=>?_,.cons ?_ b⟩;rcases nW2.1 hy with rfl|hy;exact i;exact h2 y hy;exact(LR.closed (C:=⟨fun _=>none,fun _=>none,fun _=>none⟩) j).plain (hp x)
  obtain⟨l,h1,h2,b⟩:=this;exact⟨l,⟨by omega,h2⟩,.cons b.is .nil⟩
theorem eZ {fs:Array Field} (a:P.underlying t=some (.struct fs)) (h:kQ P D t cs):∃D',bH1 (kQ P D') P fs.toList cs:=by
 cases D with
 |zero=>exact h.elim
 |succ D=>
  unfold kQ at h;rw[a]at h;exact⟨D,h⟩
theorem yK1 {n:Nat} {e:TypeId} (b:P.underlying t=some (.array n e)) (h:kQ P D t cs):∃(D':Nat) (rows:aA (aA AV)),cs=rows.flatten/\rows.length=n/\∀row∈rows,row.length=P.cellsOf e/\kQ P D' e row:=by
 cases D with
 |zero=>exact h.elim
 |succ D=>
  unfold kQ at h;rw[b]at h;obtain⟨rows,h1,h2,a⟩:=h;exact⟨D,rows,h1,h2,a⟩
theorem oK1 {α:Type} {l:aA α} (h:l.length=6):∃a b c d e f,l=[a,b,c,d,e,f]:=by
 rcases l with _|⟨a,_|⟨b,_|⟨c,_|⟨d,_|⟨e,_|⟨f,_|⟨g,l⟩⟩⟩⟩⟩⟩⟩<;>simp at h;exact⟨a,b,c,d,e,f,rfl⟩
end
end Go.P
namespace Go.P
open Go.Sim
theorem Xt {T:iG} {f:FuncId} {xs:aA PV} (h:oD T f xs (bv true)) {ys:aA AV} (hl:LR (RC false) xs ys) (hc:ys.all (closed 4)=true):∃d s,callF T (exec T d) 0 f ys {h:=[],n:=0}=some (.v (.bool true),s):=by
 obtain⟨ifn,h1,h2,g,a⟩:=h;obtain⟨D,b⟩:=a ys hl;obtain⟨y,c,e⟩:=b D (nM2 _);cases e;exact⟨D,_,by simp only[callF,h1,h2,oK2,hc,c,oM2];rfl⟩
theorem tZ {x:PV} {y:AV} {d:Nat} (h:RC false x y) (hp:eY x=true):closed (d+1) y=true:=by
 cases h<;>first|rfl|simp[eY]at hp
theorem Mr {xs:aA PV} {ys:aA AV} (h:LR (RC false) xs ys) (hp:xs.all eY=true):closed 4 (.agg ys)=true:=by
 unfold closed;rw[nN2];intro y hy;obtain⟨j,b⟩:=oF2.1 hy;have a:j<xs.length:=by rw[h.1];exact(nK2.1 b).1
 have c:xs[j]? =some xs[j]:=oT2 a;exact tZ (h.2 j _ _ c b) (nN2.1 hp _ (qI2 a))
def kZ1:Value->Value->Bool
 |.int k a,.int k' b=>decide (k=k')&&decide (a=b)
 |.bool a,.bool b=>decide (a=b)
 |.string a,.string b=>decide (a=b)
 |.slice none 0 0,.slice none 0 0=>true
 |_,_=>false
theorem dB1 {x y:Value} (h:kZ1 x y=true):x=y:=by
 unfold kZ1 at h;split at h<;>simp_all
def Jy {α β:Type} (f:α->β->Bool):aA α->aA β->Bool
 |[],[]=>true
 |a::as,b::bs=>f a b&&Jy f as bs
 |_,_=>false
theorem nG {α β:Type} {f:α->β->Bool}:∀{xs:aA α} {ys:aA β},Jy f xs ys=true->xs.length=ys.length/\∀(j:Nat) (x:α) (y:β),xs[j]? =some x->ys[j]? =some y->f x y=true
 |[],[],_=>⟨rfl,fun j x y h=>by simp at h⟩
 |[],b::bs,h=>by simp[Jy]at h
 |a::as,[],h=>by simp[Jy]at h
 |a::as,b::bs,h=>by
  simp only[Jy,nJ2]at h
  obtain⟨h1,h2⟩:=h
  have ih:=nG h2
  refine⟨by simp[ih.1],fun j x y c hy=>?_⟩
  cases j with
  |zero=>simp at c hy;subst c;subst hy;exact h1
  |succ j=>simp at c hy;exact ih.2 j x y c hy
def rcB:Nat->PV->AV->Bool
 |0,_,_=>false
 |d+1,x,y=>match x,y with
  |.v x,.v y=>kZ1 x y
  |.is e rows,.is e' rows'=>decide (e=e')&&Jy (Jy (rcB d)) rows rows'
  |.is _ [],.v (.slice none 0 0)=>true
  |_,_=>false
theorem Xu:∀(d:Nat) {x:PV} {y:AV} (p:Bool),rcB d x y=true->RC p x y
 |0,x,y,p,h=>by simp[rcB]at h
 |d+1,x,y,p,h=>by
  unfold rcB at h
  split at h
  rw[dB1 h];exact .v _
  simp only[nJ2,nR2]at h
  obtain⟨rfl,h⟩:=h
  have h1:=nG h
  refine .is h1.1 (fun i r r' hr a=>(nG (h1.2 i r r' hr a)).1) (fun i r r' j x y hr a b hy=>Xu d true ((nG (h1.2 i r r' hr a)).2 j x y b hy))
  exact .isn
  cases h
end Go.P
namespace Go.P
open Go.Sim (IC IX AV eE kR)
section
variable {R:Type}
def fN (s:Nat) (K:Nat->R):R:=match s with
 |0=>K 0
 |n+1=>K (n+1)
def num:Nat->Nat->(Nat->Nat->R)->R
 |0,s,K=>K 0 s
 |k+1,s,K=>bif Nat.ble 8 (s%16)then fN (s/16) fun t=>num k t fun n t=>K (s%16-8+8*n) t else fN (s/16) fun t=>K (s%16) t
def oM1:Nat->Nat->(aA Nat->Nat->R)->R
 |0,s,K=>K [] s
 |k+1,s,K=>num 16 s fun n t=>fN n fun n=>oM1 k t fun l u=>K (n::l) u
def Jz (s:Nat) (K:aA Nat->Nat->R):R:=num 16 s fun n t=>oM1 n t K
def iG1:Nat->Nat->(aA (aA Nat)->Nat->R)->R
 |0,s,K=>K [] s
 |k+1,s,K=>Jz s fun n t=>iG1 k t fun l u=>K (n::l) u
def uV:AV->PV
 |.v x=>.v x
 |.fn (.func f) _ _=>.fn f [] []
 |.agg cs=>.agg (cs.map fun c=>match c with|.v x=>.v x|_=>.undef)
 |_=>.undef
def uX:IX->PX
 |.t i=>.t i
 |.c x=>.c (uV x)
def Xv:aA PX->aA Nat
 |[]=>[]
 |.t i::xs=>i::Xv xs
 |_::xs=>Xv xs
def kil (h:Nat) (xs:aA PX) (s:Nat) (K:aA Nat->Nat->R):R:=match h with
 |0=>K [] s
 |1=>K (Xv xs) s
 |_=>Jz s K
def mrk:aA Nat->gX->gX
 |[0,d,ty,e,g],r=>.own d ty e (Nat.beq g 1) r
 |[1,d],r=>.fz d none r
 |[2,d,j],r=>.fz d (some j) r
 |[3,d],r=>.laxm d none r
 |[4,d,j],r=>.laxm d (some j) r
 |[5,d,e],r=>.lax d [some e] r
 |[6,d,j,ty,e,g],r=>.ownc d j ty e (Nat.beq g 1) r
 |[7,d,j,e],r=>.laxc d j e r
 |[8,d,m,j,e],r=>.lax d ((List.range m).map fun q=>bif Nat.beq q j then some e else none) r
 |_,r=>r
def oN1:aA (aA Nat)->gX->gX
 |[],r=>r
 |m::ms,r=>mrk m (oN1 ms r)
def opO (d:aB Nat) (k:eE) (xs:aA PX) (l:aA Nat) (r:gX):gX:=match d with
 |some d=>.op d k xs l r
 |none=>.sto k xs l r
def pie (f:aA Sim.Op1->Nat->(gX->Nat->R)->R) (h:Nat) (os:aA Sim.Op1) (s:Nat) (K:(gX->gX)->aA Sim.Op1->Nat->R):R:=num 16 s fun k s=>f (os.take k) s fun b s=>match os.drop k with
 |[]=>K (fun r=>r) [] s
 |o::os=>match o.dst,o.xs with
  |some d,[.t c,x,y]=>kil (s%16) [.t c] (s/16) fun l s=>match y with
   |.c (.v (.bool false))=>K (bif Nat.beq h 5 then .ifx d c true b (uX x) l else .ifn d c true b (uX x) l) os s
   |_=>K (bif Nat.beq h 5 then .ifx d c false b (uX y) l else .ifn d c false b (uX y) l) os s
  |_,_=>K (fun r=>r) [] s
def its:Nat->aA Sim.Op1->Nat->(gX->Nat->R)->R
 |0,_,s,K=>K .nil s
 |_,[],s,K=>K .nil s
 |n+1,o::os,s,K=>match s%16 with
  |3=>Jz (s/16) fun l s=>its n os s fun r s=>(match o.k,o.dst with
   |.buildSl ty _ _ z _,some d=>K (.mkfl d ty z (o.xs.map uX) l r) s
   |_,_=>K .nil s)
  |4=>kil (s/16%16) (o.xs.map uX) (s/256) fun l s=>num 16 s fun m s=>iG1 m s fun b s=>its n os s fun r s=>K (opO o.dst o.k (o.xs.map uX) l (oN1 b r)) s
  |5=>pie (its n) 5 (o::os) (s/16) fun a os s=>its n os s fun r s=>K (a r) s
  |6=>pie (its n) 6 (o::os) (s/16) fun a os s=>its n os s fun r s=>K (a r) s
  |h=>fN (s/16) fun t=>kil h (o.xs.map uX) t fun l s=>its n os s fun r s=>K (opO o.dst o.k (o.xs.map uX) l r) s
def iH1:aA Nat->aA (Nat×Nat×Nat×Nat)
 |a::b::c::d::r=>(a,b,c,d)::iH1 r
 |_=>[]
def Tj:IC->Nat->(PC->Nat->R)->R
 |.skip,s,K=>K .skip s
 |.reg ops,s,K=>its ops.length ops s fun b s=>K (.reg b) s
 |.regD ops bf,s,K=>num 16 s fun dr s=>its ops.length ops s fun b s=>Jz s fun q s=>(match q with
  |[]=>K (.regD dr b bf) s
  |q=>K (.regX dr b bf (iH1 q)) s)
 |.seq a b,s,K=>Tj a s fun x s=>Tj b s fun y s=>K (.seq x y) s
 |.cond c a b,s,K=>match s%16 with
  |1=>Jz (s/16) fun l s=>Tj a s fun x s=>Tj b s fun y s=>K (.condJ l (uX c) x y) s
  |2=>fN (s/16) fun s=>Tj a s fun x s=>Tj b s fun y s=>K (.condL (uX c) x y) s
  |_=>fN (s/16) fun s=>Tj a s fun x s=>Tj b s fun y s=>K (.cond (uX c) x y) s
 |.block id c,s,K=>Tj c s fun x s=>K (.block id x) s
 |.loop c,s,K=>match s%16 with
  |1=>num 16 (s/16) fun m s=>Jz s fun l s=>Tj c s fun x s=>K (.loopU m l x) s
  |_=>Jz (s/16) fun l s=>Jz s fun d s=>Tj c s fun x s=>K (.loop l d x) s
 |.rangeF _ _ _ _,s,K=>K .skip s
 |.exit id,s,K=>K (.exit id) s
 |.ret,s,K=>K .ret s
def anF (P:Program) (f s:Nat) (z:Bool):bV:=match P.funcs[f]? with
 |some fn=>match fn.body with
  |some c=>match Sim.comp P c,Sim.mapO (Sim.compRes P) fn.results.toList with
   |some ic,some rs=>Tj ic s fun c _=>⟨fn.ntmps,rs,c,z⟩
   |_,_=>default
  |none=>default
 |none=>default
end
end Go.P
namespace Go.P
open Go.Sim
theorem Ka {Q:Program} {T:iG} (e:gP Q T) (a:Q.follows .mixedOrders=true) {f:FuncId} {xs:aA PV} {ys:aA AV} {b:Bool} (h:oD T f xs (bv b)) (hl:LR (RC false) xs ys) (hc:ys.all (closed 4)=true):kE Q f ys (.v (.bool b)):=by
 obtain⟨fn,h1,h2,_,c⟩:=h;obtain⟨D,d⟩:=c ys hl;obtain⟨y,g,i⟩:=d D (nM2 _);cases i;exact zL e a h1 h2 hc g
theorem Xw {T:iG} {f:FuncId} {fn:IFn} {b:Bool} (a:T f=some fn) (hp:fn.pure=true) (e:fn.frz=true) (c:T.memo f []=some (.v (.bool b))):oD T f [] (bv b):=
 ⟨fn,a,hp,fun _=>e,fun ys hy=>⟨0,fun d _=>⟨_,by rw[hy.inv_nil];simp only[runP,c],.v _⟩⟩⟩
def iI1:Nat->PV->AV
 |0,_=>.es
 |d+1,x=>match x with
  |.v x=>.v x
  |.is _ []=>.v (.slice none 0 0)
  |.is e rows=>.is e (rows.map fun r=>r.map (iI1 d))
  |_=>.es
def Dn (d:Nat) (xs:aA PV):aA AV:=xs.map (iI1 d)
theorem Pw {cells:aA PV} {d:Nat} (h:Jy (rcB 12) cells (Dn d cells)=true):LR (RC false) [.agg cells] [.agg (Dn d cells)]:=by
 have:=nG h;exact .cons (.agg this.1 (fun j x y a hy=>Xu 12 false (this.2 j x y a hy))) (.nil)
end Go.P
