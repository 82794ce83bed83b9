import Derived.Test.YtlohgggadnajiaaGreatLpB
/- A text of the proof. -/
set_option linter.all false
namespace Go.P
open Go.Sim (IC IX AV hZ oC)
section
variable {R:Type}
def fN (s:Nat) (K:Nat->R):R:=match s with
 |0=>K 0
 |n+1=>K (n+1)
def num:Nat->Nat->(Nat->Nat->R)->R
 |0,s,K=>K 0 s
 |k+1,s,K=>bif Nat.ble 8 (s%16)then fN (s/16) fun t=>num k t fun n t=>K (s%16-8+8*n) t else fN (s/16) fun t=>K (s%16) t
def aK2:Nat->Nat->(aA Nat->Nat->R)->R
 |0,s,K=>K [] s
 |k+1,s,K=>num 16 s fun n t=>fN n fun n=>aK2 k t fun l u=>K (n::l) u
def sM (s:Nat) (K:aA Nat->Nat->R):R:=num 16 s fun n t=>aK2 n t K
def Ws:Nat->Nat->(aA (aA Nat)->Nat->R)->R
 |0,s,K=>K [] s
 |k+1,s,K=>sM s fun n t=>Ws k t fun l u=>K (n::l) u
def uV:AV->PV
 |.v x=>.v x
 |.fn (.func f) _ _=>.fn f [] []
 |.agg cs=>.agg (cs.map fun c=>match c with|.v x=>.v x|_=>.undef)
 |_=>.undef
def uX:IX->PX
 |.t i=>.t i
 |.c x=>.c (uV x)
def fN1:aA PX->aA Nat
 |[]=>[]
 |.t i::xs=>i::fN1 xs
 |_::xs=>fN1 xs
def kil (h:Nat) (xs:aA PX) (s:Nat) (K:aA Nat->Nat->R):R:=match h with
 |0=>K [] s
 |1=>K (fN1 xs) s
 |_=>sM s K
def tdL:Nat->Nat->aA Nat->(aA (Nat×TD)->kM)->(aA (Nat×TD)->aA Nat->kM)->kM
 |_,0,l,_,K=>K [] l
 |n+1,c+1,j::a::b::k::l,E,K=>tdL n k l E fun ks l=>tdL n c l E fun r l=>K ((j,.nd a b ks)::r) l
 |_,_,_,E,_=>E []
def tdK (l:aA Nat) (K:TD->kM):kM:=tdL 16 1 (0::l) (fun _=>.nil) fun r _=>match r with
 |(_,t)::_=>K t
 |[]=>.nil
def lA2:Nat->aB Nat
 |0=>none
 |n+1=>some n
def mrk:aA Nat->kM->kM
 |9::d::j::l,r=>tdK l fun t=>.tre d (lA2 j) t r
 |10::l,r=>.gc l r
 |[0,d,ty,e,g],r=>.own d ty e (Nat.beq g 1) r
 |[5,d,e],r=>.lax d [some e] r
 |[6,d,j,ty,e,g],r=>.ownc d j ty e (Nat.beq g 1) r
 |[7,d,j,e],r=>.laxc d j e r
 |[8,d,m,j,e],r=>.lax d ((List.range m).map fun q=>bif Nat.beq q j then some e else none) r
 |_,r=>r
def fO1:aA (aA Nat)->kM->kM
 |[],r=>r
 |m::ms,r=>mrk m (fO1 ms r)
def opO (d:aB Nat) (k:hZ) (xs:aA PX) (l:aA Nat) (r:kM):kM:=match d with
 |some d=>.op d k xs l r
 |none=>.sto k xs l r
def pie (f:aA Sim.Op1->Nat->(kM->Nat->R)->R) (h:Nat) (os:aA Sim.Op1) (s:Nat) (K:(kM->kM)->aA Sim.Op1->Nat->R):R:=num 16 s fun k s=>f (os.take k) s fun b s=>match os.drop k with
 |[]=>K (fun r=>r) [] s
 |o::os=>match o.dst,o.xs with
  |some d,[.t c,x,y]=>kil (s%16) [.t c] (s/16) fun l s=>match y with
   |.c (.v (.bool false))=>K (bif Nat.beq h 5 then .ifx d c true b (uX x) l else .ifn d c true b (uX x) l) os s
   |_=>K (bif Nat.beq h 5 then .ifx d c false b (uX y) l else .ifn d c false b (uX y) l) os s
  |_,_=>K (fun r=>r) [] s
def its:Nat->aA Sim.Op1->Nat->(kM->Nat->R)->R
 |0,_,s,K=>K .nil s
 |_,[],s,K=>K .nil s
 |n+1,o::os,s,K=>match s%16 with
  |3=>sM (s/16) fun l s=>its n os s fun r s=>(match o.k,o.dst with
   |.buildSl ty _ _ z _,some d=>K (.mkfl d ty z (o.xs.map uX) l r) s
   |_,_=>K .nil s)
  |4=>kil (s/16%16) (o.xs.map uX) (s/256) fun l s=>num 16 s fun m s=>Ws m s fun b s=>its n os s fun r s=>K (opO o.dst o.k (o.xs.map uX) l (fO1 b r)) s
  |7=>sM (s/16) fun l s=>sM s fun q s=>num 16 s fun m s=>Ws m s fun b s=>its n os s fun r s=>(match o.k,o.dst with
   |.buildSl _ _ m z ps,some d=>K (tdK q fun t=>.bst d t m z ps (o.xs.map uX) l (fO1 b r)) s
   |_,_=>K .nil s)
  |8=>sM (s/16) fun l s=>sM s fun js s=>num 16 s fun m s=>Ws m s fun b s=>its n os s fun r s=>(match o.k,o.dst,o.xs with
   |.loadS,some d,[x]=>K (.opn d none (uX x) l js (fO1 b r)) s
   |.loadA i,some d,[x]=>K (.opn d (some i) (uX x) l js (fO1 b r)) s
   |_,_,_=>K .nil s)
  |5=>pie (its n) 5 (o::os) (s/16) fun a os s=>its n os s fun r s=>K (a r) s
  |6=>pie (its n) 6 (o::os) (s/16) fun a os s=>its n os s fun r s=>K (a r) s
  |h=>fN (s/16) fun t=>kil h (o.xs.map uX) t fun l s=>its n os s fun r s=>K (opO o.dst o.k (o.xs.map uX) l r) s
def tB1:aA Nat->aA (Nat×Nat×Nat×Nat)
 |a::b::c::d::r=>(a,b,c,d)::tB1 r
 |_=>[]
def gcB (m:Nat) (c:IC) (l:aA Nat) (x:PC):PC:=match c with
 |.reg _=>.seq (.seq (.reg (.gc (List.range m) .nil)) x) (.reg (.gc l .nil))
 |.regD _ _=>.seq (.seq (.reg (.gc (List.range m) .nil)) x) (.reg (.gc l .nil))
 |_=>.seq x (.reg (.gc l .nil))
def aM2 (g:Bool) (x:PC) (s:Nat) (K:PC->Nat->R):R:=bif g then(bif Nat.beq (s%16) 0 then fN (s/16) fun s=>K x s else sM (s/16) fun l s=>K (.seq (.reg (.gc l .nil)) x) s)else K x s
def Mv (m:Nat) (g:Bool):IC->Nat->(PC->Nat->R)->R
 |.skip,s,K=>K .skip s
 |.reg ops,s,K=>its ops.length ops s fun b s=>K (.reg b) s
 |.regD ops bf,s,K=>num 16 s fun dr s=>its ops.length ops s fun b s=>sM s fun q s=>(match q with
  |[]=>K (.regD dr b bf) s
  |q=>K (.regX dr b bf (tB1 q)) s)
 |.seq a b,s,K=>Mv m g a s fun x s=>Mv m g b s fun y s=>K (.seq x y) s
 |.cond c a b,s,K=>match s%16 with
  |1=>sM (s/16) fun l s=>Mv m g a s fun x s=>Mv m g b s fun y s=>K (.condJ l (uX c) x y) s
  |2=>fN (s/16) fun s=>Mv m g a s fun x s=>Mv m g b s fun y s=>K (.condL (uX c) x y) s
  |3=>sM (s/16) fun l s=>Mv m g a s fun x s=>Mv m g b s fun y s=>K (.condJ l (uX c) (gcB m a l x) (gcB m b l y)) s
  |_=>fN (s/16) fun s=>Mv m g a s fun x s=>Mv m g b s fun y s=>K (.cond (uX c) x y) s
 |.block id c,s,K=>Mv m g c s fun x s=>K (.block id x) s
 |.loop c,s,K=>match s%16 with
  |1=>num 16 (s/16) fun n s=>sM s fun l s=>Mv m g c s fun x s=>K (.loopU n l x) s
  |2=>sM (s/16) fun l s=>sM s fun d s=>Mv m g c s fun x s=>K (.loop l d (gcB m c l x)) s
  |3=>sM (s/16) fun l s=>sM s fun d s=>Mv m g c s fun x s=>K (.seq (.reg (.gc l .nil)) (.loop l d (gcB m c l x))) s
  |_=>sM (s/16) fun l s=>sM s fun d s=>Mv m g c s fun x s=>K (.loop l d x) s
 |.rangeF _ _ _ _,s,K=>K .skip s
 |.exit id,s,K=>aM2 g (.exit id) s K
 |.ret,s,K=>aM2 g .ret s K
def lB2 (m:Nat) (c:IC) (s:Nat) (K:PC->R):R:=bif Nat.beq (s%16) 15 then fN (s/16) fun s=>bif Nat.beq (s%16) 0 then fN (s/16) fun s=>Mv m true c s fun x _=>K x else sM (s/16) fun l s=>Mv m true c s fun x _=>K (gcB m c l x)else Mv m false c s fun x _=>K x
def anF (P:Program) (f s:Nat) (z:Bool):cR:=match P.funcs[f]? with
 |some fn=>match fn.body with
  |some c=>match Sim.comp P c,Sim.mapO (Sim.compRes P) fn.results.toList with
   |some ic,some rs=>lB2 fn.ntmps ic s fun c=>⟨fn.ntmps,rs,c,z⟩
   |_,_=>default
  |none=>default
 |none=>default
end
end Go.P
namespace Go.P
open Go.Sim
def Qn {Q:Program} {T:lI} (e:kN Q T) (a:Q.follows .mixedOrders=true) {f:FuncId} {xs:aA PV} {ys:aA AV} {b:Bool} (h:sJ T f xs (bv b)) (hl:LR (RC false) xs ys) (hc:ys.all (closed 4)=true):nN Q f ys (.v (.bool b)):=by
 obtain⟨fn,h1,h2,_,c⟩:=h;obtain⟨D,d⟩:=c ys hl;obtain⟨y,g,i⟩:=d D (bI3 _);cases i;exact Fe e a h1 h2 hc g
def fQ1 {T:lI} {f:FuncId} {fn:IFn} {b:Bool} (a:T f=some fn) (hp:fn.pure=true) (e:fn.frz=true) (c:T.memo f []=some (.v (.bool b))):sJ T f [] (bv b):=
 ⟨fn,a,hp,fun _=>e,fun ys hy=>⟨0,fun d _=>⟨_,by rw[hy.inv_nil];simp only[runP,c],.v _⟩⟩⟩
def tC1:Nat->PV->AV
 |0,_=>.es
 |d+1,x=>match x with
  |.v x=>.v x
  |.is _ []=>.v (.slice none 0 0)
  |.is e rows=>.is e (rows.map fun r=>r.map (tC1 d))
  |_=>.es
def Ju (d:Nat) (xs:aA PV):aA AV:=xs.map (tC1 d)
def Wt {cells:aA PV} {d:Nat} (h:Qm (rcB 12) cells (Ju d cells)=true):LR (RC false) [.agg cells] [.agg (Ju d cells)]:=by
 have:=rH h;exact .cons (.agg this.1 (fun j x y a hy=>fM1 12 false (this.2 j x y a hy))) (.nil)
end Go.P
