import Derived.Test.YtcbmkpbljlaghaaGreatPlA
/- A text of the proof. -/
set_option linter.all false
set_option maxRecDepth 100000
set_option maxHeartbeats 1000000
namespace Go.P
variable {s:Y0}
def fV1 (b p:Int):Bool:=dU .i64 (b.fdiv (2^min p.toNat 64)) 1==1
theorem uY1 {b:Int} {p:Nat}:mB .i64 b (p:Int)=some (b.fdiv (2^min ((p:Int)).toNat 64)):=by
 unfold mB;rw[wN2 (by omega)];rfl
def jC (g:aJ) (p:Int):aA bH:=g.body::((g.endings.filter fun x=>fV1 x.bits p).map (·.span))
def wA (b:Bool) (x:bH):aA (Int×Bool):=(vY x.first x.end').map fun m=>(m,b)
def Dq (g:aJ) (p:Int):aA (Int×Bool):=(jC g p).flatMap (wA (p==g.passes-1))
def Dr (g:aJ):aA (Int×Bool):=(vY 0 g.passes).flatMap (Dq g)
def tT (G:aA aJ):aA (Int×Bool):=G.flatMap Dr
theorem GG.parts {n:Nat} {g:aJ} (h:GG n g) {p:Int} {x:bH} (a:x∈jC g p):∃f e:Nat,x=⟨(f:Int),(e:Int)⟩/\f<=e/\e<=n:=by
 rcases xF2.1 a with rfl|a;exact h.b;obtain⟨y,hy,rfl⟩:=zR2.1 a;exact(h.e y (List.mem_filter.1 hy).1).1
theorem qE1 {A B:Type} {l:aA A} {f:A->aA B} {k:Nat} (h:∀x∈l,(f x).length<=k):(l.flatMap f).length<=l.length*k:=by
 induction l with
 |nil=>simp
 |cons x r ih=>
  rw[zF2,xD2,xR2,xZ2];have h1:=h x List.mem_cons_self;have h2:=ih fun y hy=>h y (yA2 _ hy);omega
theorem Yj {n:Nat} {g:aJ} (h:GG n g) (p:Int):(Dq g p).length<=n:=by
 have key:∀(b:Bool) (l:aA bE),(∀y∈l,GE n y)->((((l.filter fun x=>fV1 x.bits p).map (·.span)).flatMap (wA b)).length:Int)<=Ut l:=fun b l=>by
  induction l with
  |nil=>intro _;simp[Ut]
  |cons x r ih=>
   intro hl;have d:=ih fun y hy=>hl y (yA2 _ hy);obtain⟨⟨f,e,h1,h2,h3⟩,_⟩:=hl x List.mem_cons_self;have a:Ut (x::r)=(x.span.end'-x.span.first)+Ut r:=by simp[Ut]
   have c:x.span.end'-x.span.first=(e:Int)-f:=by rw[h1]
   rw[List.filter_cons];split;rw[yY2,zF2,xD2,a,c];have:(wA b x.span).length=e-f:=by rw[h1];simp only[wA,zG2,Ab];omega
   omega;rw[a,c];omega
 have i:=key (p==g.passes-1) g.endings h.e;obtain⟨f,e,h1,h2,h3⟩:=h.b;have a:=h.t;unfold Dq jC;rw[zF2,xD2];have:(wA (p==g.passes-1) g.body).length=e-f:=by rw[h1];simp only[wA,zG2,Ab];omega
 rw[h1]at a;dsimp only at a;omega
theorem Rm {n:Nat} {g:aJ} (h:GG n g):(Dr g).length<=8*n:=by
 have:=qE1 (l:=vY 0 g.passes) (f:=Dq g) (k:=n) fun p _=>Yj h p;rw[Ab]at this;have hp:=h.p;refine xJ2 this (xK2 n (by omega))
theorem Rn {n:Nat} {G:aA aJ} (a:∀x∈G,GG n x) (hl:G.length<=n) (b:n<=20):(tT G).length<=3200:=by
 have:=qE1 (l:=G) (f:=Dr) (k:=8*n) fun g hg=>Rm (a g hg);have h2:G.length*(8*n)<=20*(8*20):=aF3 (by omega) (by omega);unfold tT;omega
def Jp (s:Y0) (m:Int):Int:=(gm s m.toNat).hU
def Et (J:Int->Int) (aft:Int->aA Int):aA Int->aA (Int×Bool)->aA Int×Bool
 |ms,[]=>(ms,false)
 |ms,x::r=>if J x.1≠0/\x.2=true then(ms++[x.1]++aft (J x.1),true)else Et J aft (ms++[x.1]) r
def pP (s:Y0) (b:Int):Int:=(Dd s.aD b).getD 0
theorem Jz (a:s.aD.length<100000) (b:Int):eG1 s b=some (pP s b)/\Yv s b (pP s b):=by
 obtain⟨r,h1,h2⟩:=Yi a b;unfold eG1 pP;rw[h1];exact⟨rfl,h2⟩
def lS (j:Int):Int:=if j=2\/j=5 then 4 else if j=3\/j=6 then 8 else 0
def rI (s:Y0) (st:Int) (cl:aA Int):aA Int->aA Int
 |[]=>[]
 |m::r=>m::(if st≠0/\tS s m.toNat st=true then(if st=8 then cl else[])else rI s st cl r)
theorem Gy {st:Int} {cl:aA Int}:∀{l:aA Int},(∀m∈l,tS s m.toNat st=false)->rI s st cl l=l
 |[],_=>rfl
 |m::r,h=>by
  rw[rI,wN2 (by rw[h m List.mem_cons_self];simp),Gy fun x a=>h x (yA2 _ a)]
theorem Nv {st:Int} {cl:aA Int} {x:Int}:∀{l:aA Int},x∈rI s st cl l->x∈l\/(st=8/\x∈cl)
 |[],h=>by simp[rI]at h
 |m::r,h=>by
  rw[rI]at h
  rcases xF2.1 h with rfl|h
  exact .inl List.mem_cons_self
  split at h
  split at h
  rename_i a;exact .inr ⟨a,h⟩
  simp at h
  rcases Nv h with h|h
  exact .inl (yA2 _ h)
  exact .inr h
def xP (s:Y0) (SK:aA (Int×Bool)) (j:Int):aA Int:=rI s (lS j) (jH SK s.aD.length (pP s 2)) (jH SK s.aD.length (if j>=4 then pP s 1 else 0))
theorem Ro {SK:aA (Int×Bool)} {n i:Nat} (h:i<n):jH SK n (i:Int)=if fJ SK (i:Int) false=true then jH SK n ((i+1:Nat):Int)else(i:Int)::jH SK n ((i+1:Nat):Int):=by
 unfold jH;rw[oN (by omega),List.filter_cons];cases fJ SK (i:Int) false<;>simp
theorem xQ {SK:aA (Int×Bool)} {n:Nat} {f x:Int} (h:x∈jH SK n f):f<=x/\x<(n:Int):=Us (List.mem_filter.1 h).1
theorem no8 (e:∀i,i<s.aD.length->Jm s i) {t c:Int} (h:Yv s 8 t) (m:0<=t) (j:t<c):∀k:Nat,c<=(k:Int)->k<s.aD.length->tS s k 8=false:=by
 intro k hk d;rcases h with⟨rfl,_⟩|⟨u,rfl,u1,u2,u3⟩
 omega;have g:=(e k d).u u (by omega);have n:=(e k d).l;have o:=(e u u1).l;have key:∀a b:Fin 16,dU .i64 (a.val:Int) (b.val:Int)=0->(dU .i64 (b.val:Int) 8 !=0)=true->(dU .i64 (a.val:Int) 8 !=0)=false:=by decide+kernel
 obtain⟨a,f⟩:∃a:Nat,(gm s k).cZ=(a:Int):=⟨(gm s k).cZ.toNat,by omega⟩
 obtain⟨b,hb⟩:∃b:Nat,(gm s u).cZ=(b:Int):=⟨(gm s u).cZ.toNat,by omega⟩
 have:=key ⟨a,by omega⟩ ⟨b,by omega⟩;dsimp only at this;unfold tS at u2 ⊢;rw[f,hb]at g;rw[hb]at u2;rw[f];exact this g u2
theorem uZ1 (d:∀i,i<s.aD.length->Jm s i) {t:Int} (b:Yv s 8 t) {i:Nat} (hi:i<s.aD.length) (h:tS s i 8=true) (e:0<=t):t=(i:Int):=by
 rcases b with⟨rfl,_⟩|⟨u,rfl,u1,u2,u3⟩
 omega;by_cases a:i<u;rw[u3 i a]at h;cases h;by_cases he:i=u;rw[he];have:=no8 d (t:=(u:Int)) (c:=(i:Int)) (.inr ⟨u,rfl,u1,u2,u3⟩) (by omega) (by omega) i (by omega) hi;rw[this]at h;cases h
theorem fW1 {G:aA aJ} (hn:s.aD.length<=20) (Y:∀x∈G,GG s.aD.length x) (hl:G.length<=s.aD.length) (y:∀i,i<s.aD.length->Jm s i) {j:Int} {u:Nat} (o:u<s.aD.length) (E:(gm s u).hU=j)
  {w:aA Int} {mp:aA (Int×Int)} {l:aA bJ} (Z:St w mp l) (hb:w.length<=8000) (a:Int) (b:aA bJ):
  Ok (Uh G j s mp l a b) (fun r=>∃e l',r=.inr (e,l')/\St (w++xP s (iD [] (fK G)) j) e l'/\∀x∈xP s (iD [] (fK G)) j,0<=x/\x<(s.aD.length:Int)):=by
 unfold Uh;rw[fU1 (by omega) Y hl];simp only[wJ2];generalize hSK:iD [] (fK G)=SK;obtain⟨q1,q2⟩:=Jz (s:=s) (by omega) 1;obtain⟨q3,q4⟩:=Jz (s:=s) (by omega) 2
 have C:j>=4->0<=pP s 1:=fun h=>by
  obtain⟨r,hr,h0⟩:=(y u o).d (by rw[E];exact h);rw[q2.det hr];exact h0
 have D:∀{b:Int},Yv s b (pP s b)->pP s b<(s.aD.length:Int):=fun h=>by
  rcases h with⟨h,_⟩|⟨i,h,h1,_⟩<;>rw[h]<;>omega
 have T:=D q2;have U:=D q4
 obtain⟨f,hf,H⟩:∃f:Nat,(if j>=4 then pP s 1 else 0)=(f:Int)/\f<=s.aD.length:=by
  by_cases h:j>=4
  .rw [wO2 h];have:=C h;exact⟨(pP s 1).toNat,by omega,by omega⟩
  .rw [wN2 h];exact⟨0,rfl,xA2 _⟩
 refine Ob (P:=fun r=>r=(f:Int)) ?_ fun r hr=>?_
 .rw [<-hf]
  by_cases h:j>=4
  .rw [wO2 (by simpa using h),wO2 h,q1];exact .mk rfl
  .rw [wN2 (by simpa using h),wN2 h];exact .mk rfl
 subst hr;have S:xP s SK j=rI s (lS j) (jH SK s.aD.length (pP s 2)) (jH SK s.aD.length (f:Int)):=by unfold xP;rw[hf]
 have p:∀x∈xP s SK j,0<=x/\x<(s.aD.length:Int):=by
  intro x z;rw[S]at z;rcases Nv z with z|⟨h8,z⟩
  .have:=xQ z;omega
  .have F:(gm s u).hU=3\/(gm s u).hU=6:=by
    rw[E];unfold lS at h8;split at h8
    .cases h8
    .split at h8
     .rename_i h;exact h
     .cases h8
   obtain⟨t,c,M,N,O,V⟩:=(y u o).c F;have X:=q4.det N;have:=xQ z;omega
 refine Ob (P:=fun r=>∃e l',(r=.inr (.inl (e,l'))\/r=.inr (.inr (e,l')))/\St (w++xP s SK j) e l') (cM (fun(q:Int×aA (Int×Int)×aA bJ)=>∃(i:Nat) (k:aA Int),q.1=(i:Int)/\i<=s.aD.length/\St k q.2.1 q.2.2/\k.length<=w.length+i/\k++rI s (lS j) (jH SK s.aD.length (pP s 2)) (jH SK s.aD.length (i:Int))=w++xP s SK j) (fun q=>s.aD.length-q.1.toNat) (fun q hq=>?_) bN ((f:Int),mp,l) ⟨f,w,rfl,H,Z,by omega,by rw[S]⟩ (by simp only[bN];omega)) fun r hr=>?_
 .obtain ⟨ii,a0,l1⟩:=q
  obtain⟨i,k,R,g2,A,g4,g⟩:=hq;dsimp only at R A g ⊢;subst R;by_cases hi:i<s.aD.length
  .rw [wO2 (by simp;omega)]
   rw[Ro hi]at g;cases hsk:fJ SK (i:Int) false with
   |true=>
    rw[hsk,wO2 rfl]at g;rw[wO2 rfl,nJ (by omega)];exact .mk ⟨⟨i+1,k,rfl,hi,A,by omega,g⟩,by dsimp only;omega⟩
   |false=>
    rw[hsk,wN2 (by decide)]at g;rw[wN2 (by decide),A.play (by omega)];simp only[wJ2];rw[mC hi];simp only[wJ2];have v:=A.next (i:Int) (by omega);have J:=(y u o).j;rw[E]at J;rw[rI,show((i:Int)).toNat=i from Int.toNat_natCast i]at g;by_cases c1:((dU .i64 (gm s i).cZ 4 !=0)&&(j==2||j==5))=true
    .rw [wO2 c1]
     have c2:lS j=4:=by
      unfold lS;simp only[wL2,wY2,yI2]at c1;rw[wO2 c1.2]
     have c3:tS s i 4=true:=by
      simp only[wL2]at c1;exact c1.1
     rw[c2,wO2 ⟨by decide,c3⟩,wN2 (by decide)]at g;exact .mk ⟨_,_,.inl rfl,by rw[<-g];exact v⟩
    .rw [wN2 c1]
     by_cases c4:((dU .i64 (gm s i).cZ 8 !=0)&&(j==3||j==6))=true
     .rw [wO2 c4,q3]
      simp only[wJ2];simp only[wL2,wY2,yI2]at c4
      have c2:lS j=8:=by
       unfold lS;rw[wN2 (by omega),wO2 c4.2]
      have c3:tS s i 8=true:=c4.1;rw[c2,wO2 ⟨by decide,c3⟩,wO2 rfl]at g;obtain⟨t,c,M,N,O,V⟩:=(y u o).c (by rw[E];exact c4.2);have X:=q4.det N;have et:=uZ1 y M hi c3 O;obtain⟨cn,B⟩:∃cn:Nat,pP s 2=(cn:Int):=⟨(pP s 2).toNat,by omega⟩
      rw[B,show bF ((cn:Int)-1)=(cn:Int)-1 from fP1 (by omega),bK (n:=(cn:Int)-1+1) (by omega) (by omega),show(cn:Int)-1+1=(cn:Int)by omega];refine .mk ⟨⟨cn,k++[(i:Int)],rfl,by omega,v,by rw[xD2];simp;omega,?_⟩,by dsimp only;omega⟩;rw[c2,Gy (l:=jH SK s.aD.length (cn:Int))]
      .rw [B]at g
       rw[List.append_assoc];exact g
      .intro m hm
       have:=xQ hm;exact no8 y M O (c:=c) V m.toNat (by omega) (by omega)
     .rw [wN2 c4]
      simp only[wJ2];rw[nJ (by omega)]
      have c5:¬(lS j≠0/\tS s i (lS j)=true):=by
       rintro⟨h1,h2⟩;unfold lS at h1 h2;by_cases K:j=2\/j=5
       .rw [wO2 K]at h2
        exact c1 (by simp only[wL2,wY2,yI2];exact⟨h2,K⟩)
       .rw [wN2 K]at h1 h2
        by_cases L:j=3\/j=6
        .rw [wO2 L]at h2
         exact c4 (by simp only[wL2,wY2,yI2];exact⟨h2,L⟩)
        .rw [wN2 L]at h1
         exact h1 rfl
      rw[wN2 c5]at g;refine .mk ⟨⟨i+1,k++[(i:Int)],rfl,hi,v,by rw[xD2];simp;omega,?_⟩,by dsimp only;omega⟩;rw[List.append_assoc];exact g
  .rw [wN2 (by simp;omega)]
   have:i=s.aD.length:=by omega
   subst this
   have W:jH SK s.aD.length (s.aD.length:Int)=[]:=by
    unfold jH;rw[vZ (by omega)];rfl
   rw[W,rI,zP2]at g;exact .mk ⟨_,_,.inr rfl,by rw[<-g];exact A⟩
 .obtain ⟨e,l',hr|hr,h2⟩:=hr<;>rw[hr]<;>exact .mk ⟨e,l',rfl,h2,p⟩
end Go.P
namespace Go.P
variable {s:Y0}
abbrev PS:=aA (Int×Int)×aA bJ
def jZ (s:Y0) (SK:aA (Int×Bool)) (T:aA Int×Bool) (B:Nat) (R:aA (Int×Bool)) (q:PS):Prop:=
 ∃a,St a q.1 q.2/\Et (Jp s) (xP s SK) a R=T/\a.length+R.length<=B/\∀x∈a,0<=x/\x<(s.aD.length:Int)
def Pk (s:Y0) (T:aA Int×Bool) (q:PS):Prop:=∃a,St a q.1 q.2/\T=(a,true)/\∀x∈a,0<=x/\x<(s.aD.length:Int)
def Exi (s:Y0) (SK:aA (Int×Bool)) (T:aA Int×Bool) (B:Nat) (R:aA (Int×Bool)) (r:PS⊕(PS⊕PS)):Prop:=match r with
 |.inl _=>False
 |.inr (.inl q)=>Pk s T q
 |.inr (.inr q)=>jZ s SK T B R q
structure Ctx (s:Y0) (G:List aJ):Prop where
 n:s.aD.length<=20
 g:∀x∈G,GG s.aD.length x
 l:G.length<=s.aD.length
 j:∀i,i<s.aD.length->Jm s i
variable {G:List aJ} {T:List Int×Bool} {B:Nat}
theorem vA1 (c:Ctx s G) {m:Nat} (f:m<s.aD.length) {b:Bool} {R:aA (Int×Bool)} {mp:aA (Int×Int)} {l:aA bJ} (w:B<=7900) (i:jZ s (iD [] (fK G)) T B (((m:Int),b)::R) (mp,l)) (u:Int) (v:aA bJ):
  Ok (vT (m:Int) b G s mp l u v) (fun r=>match r with|.inl _=>False|.inr (.inl q)=>Pk s T q|.inr (.inr l')=>jZ s (iD [] (fK G)) T B R (kM mp (m:Int) (bF (fJ mp (m:Int) 0+1)),l')):=by
 obtain⟨t,h1,h2,h3,h4⟩:=i;dsimp only at h1;rw[xR2]at h3;unfold vT;rw[h1.play (by omega)];simp only[wJ2];rw[mC f];simp only[wJ2];have h:=h1.next (m:Int) (by omega)
 have hr:∀x∈t++[(m:Int)],0<=x/\x<(s.aD.length:Int):=fun x a=>by
  rcases xV2.1 a with a|a
  .exact h4 x a
  .rw [yJ2]at a;omega
 have d:Jp s (m:Int)=(gm s m).hU:=by unfold Jp;rw[Int.toNat_natCast]
 rw[Et,d]at h2;by_cases hc:(gm s m).hU≠0/\b=true
 .rw [wO2 hc]at h2
  rw[wO2 (by simp[hc.1,hc.2])];unfold F52;simp only[wJ2];refine Ob (fW1 c.n c.g c.l c.j f rfl h (by rw[xD2];simp;omega) u v) fun r e=>?_;obtain⟨p,l',rfl,k,o⟩:=e
  exact .mk ⟨_,k,h2.symm,fun x a=>by
   rcases xV2.1 a with a|a
   .exact hr x a
   .exact o x a⟩
 .rw [wN2 hc]at h2
  rw[wN2 (by simpa using hc)];exact .mk ⟨_,h,h2,by rw[xD2];simp;omega,hr⟩
theorem nY1 (c:Ctx s G) {f e:Nat} (he:e<=s.aD.length) {b:Bool} {R:aA (Int×Bool)} {mp:aA (Int×Int)} {l:aA bJ} (i:B<=7900) (j:jZ s (iD [] (fK G)) T B ((vY ((f:Nat):Int) ((e:Nat):Int)).map (fun m=>(m,b))++R) (mp,l)) (u:Int) (v:aA bJ)
  {body:Int×PS->aB ((Int×PS)⊕(PS⊕(PS⊕PS)))}
  (h1:∀(m:Nat) (mp:aA (Int×Int)) (l:aA bJ),m<e->body ((m:Int),mp,l)=(vT (m:Int) b G s mp l u v).bind fun r=>match r with|.inl q=>some (.inr (.inl q))|.inr (.inl q)=>some (.inr (.inr (.inl q)))|.inr (.inr l')=>some (.inl (((m+1:Nat):Int),kM mp (m:Int) (bF (fJ mp (m:Int) 0+1)),l')))
  (h2:∀(m:Nat) (q:PS),¬m<e->body ((m:Int),q)=some (.inr (.inr (.inr q)))) (hf:f<=1000):
  Ok (aZ body bN ((f:Int),mp,l)) (fun r=>Exi s (iD [] (fK G)) T B R r):=by
 refine cM (fun(q:Int×PS)=>∃m:Nat,q.1=(m:Int)/\jZ s (iD [] (fK G)) T B ((vY ((m:Nat):Int) ((e:Nat):Int)).map (fun m=>(m,b))++R) q.2) (fun q=>e-q.1.toNat) (fun q k=>?_) bN _ ⟨f,rfl,j⟩ (by have:=c.n;simp only[bN];omega);obtain⟨o,a,h⟩:=q;obtain⟨m,d,g2⟩:=k;dsimp only at d g2;subst d;by_cases g:m<e;rw[h1 m a h g];rw[oN (by omega)]at g2;refine Ob (vA1 c (by omega) i g2 u v) fun r hr=>?_;rcases r with q|q|l';exact hr.elim;exact .mk hr;exact .mk ⟨⟨m+1,rfl,hr⟩,by dsimp only;omega⟩;rw[h2 m (a,h) g];rw[vZ (by omega)]at g2;exact .mk g2
theorem Gz {A B:Type} {l:aA A} {f:A->aA B} {i:Nat} {x:A} (h:l[i]? =some x):(l.drop i).flatMap f=f x++(l.drop (i+1)).flatMap f:=by
 rw[Uu h,zF2]
theorem fX1 {n:Nat} {g:aJ} (u:n<=20) (hg:GG n g) (p:Nat):Ok (aZ (E:=aA bH) (fun(q:Int×aA bH)=>if decide (q.1<(g.endings.length:Int))=true then(bB g.endings q.1).bind fun e=>(mB .i64 e.bits (p:Int)).bind fun h=>((if(dU .i64 h 1==1)=true then(iP false q.2 [e.span]).bind fun i=>some i else some q.2:aB (aA bH))).bind fun k=>some (.inl ((bF (q.1+1)),k))else some (.inr q.2)) bN (0,[g.body])) (fun r=>r=jC g (p:Int)):=by
 have hl:=hg.l;refine bO (l:=g.endings) (fun(q:Int×aA bH)=>q.1) (fun j q=>q.2.length<=1+j/\q.2++(((g.endings.drop j).filter fun x=>fV1 x.bits (p:Int)).map (·.span))=jC g (p:Int)) (by omega) rfl ⟨by simp,rfl⟩ (fun j y q hy s f d b c a=>?_) (fun q f b=>?_);obtain⟨t,o⟩:=q;obtain⟨h1,h2⟩:=b;have m:=(wI2.1 hy).1;dsimp only at f d h1 h2 c a ⊢;rw[wO2 (by simpa using d),c];simp only[wJ2];rw[uY1];simp only[wJ2];rw[Uu hy,List.filter_cons]at h2;by_cases hb:fV1 y.bits (p:Int)=true;rw[wO2 hb]at h2;rw[wO2 (show(dU .i64 (y.bits.fdiv (2^min ((p:Int)).toNat 64)) 1==1)=true from hb),tR (by omega)];simp only[wJ2];refine .mk ⟨a,by dsimp only;rw[xD2];simp;omega,?_⟩;dsimp only;rw[<-h2];simp;rw[wN2 hb]at h2;rw[wN2 (show ¬(dU .i64 (y.bits.fdiv (2^min ((p:Int)).toNat 64)) 1==1)=true from hb)];simp only[wJ2];exact .mk ⟨a,by dsimp only;omega,h2⟩;obtain⟨t,o⟩:=q;dsimp only at f b ⊢;rw[f,wN2 (by simp)];rw[List.drop_length]at b;exact .mk (by simpa using b.2)
theorem fY1 (c:Ctx s G) {g:aJ} (hg:GG s.aD.length g) {R:aA (Int×Bool)} {mp:aA (Int×Int)} {l:aA bJ} (A:B<=7900) (C:jZ s (iD [] (fK G)) T B (Dr g++R) (mp,l)) (u:Int) (v:aA bJ):
  Ok (Ui g G s mp l u v) (fun r=>Exi s (iD [] (fK G)) T B R r):=by
 unfold Ui;obtain⟨b,a⟩:∃b:Nat,g.passes=(b:Int):=⟨g.passes.toNat,by have:=hg.p;omega⟩
 have w:b<=8:=by have:=hg.p;omega
 have H:=c.n;refine Ob (P:=fun r=>Exi s (iD [] (fK G)) T B R r) (cM (fun(q:Int×PS)=>∃p:Nat,q.1=(p:Int)/\jZ s (iD [] (fK G)) T B ((vY (p:Int) g.passes).flatMap (Dq g)++R) q.2) (fun q=>b-q.1.toNat) (fun q j=>?_) bN (0,mp,l) ⟨0,rfl,C⟩ (by simp only[bN];omega)) fun r hr=>?_;obtain⟨O,k,J⟩:=q;obtain⟨p,t,g2⟩:=j;dsimp only at t g2 ⊢;subst t;by_cases hp:p<b;rw[wO2 (by rw[a];simp;omega)];rw[a,oN (by omega),zF2,List.append_assoc]at g2;refine Ob (fX1 H hg p) fun P D=>?_;subst D
 have E:(jC g (p:Int)).length<=21:=by
  unfold jC;rw[xR2,zG2];have:=List.length_filter_le (fun x:bE=>fV1 x.bits (p:Int)) g.endings;have:=hg.l;omega
 refine Ob (P:=fun r=>Exi s (iD [] (fK G)) T B ((vY ((p+1:Nat):Int) (b:Int)).flatMap (Dq g)++R) r) (cM (fun(q:Int×PS)=>∃i:Nat,q.1=(i:Int)/\i<=(jC g (p:Int)).length/\jZ s (iD [] (fK G)) T B (((jC g (p:Int)).drop i).flatMap (wA ((p:Int)==g.passes-1))++((vY ((p+1:Nat):Int) (b:Int)).flatMap (Dq g)++R)) q.2) (fun q=>(jC g (p:Int)).length-q.1.toNat) (fun q j=>?_) bN (0,k,J) ⟨0,rfl,xA2 _,g2⟩ (by simp only[bN];omega)) fun r hr=>?_;obtain⟨M,K,N⟩:=q;obtain⟨i,o,L,d⟩:=j;dsimp only at o d ⊢;subst o;by_cases hi:i<(jC g (p:Int)).length;rw[wO2 (by simp;omega)];have z:(jC g (p:Int))[i]? =some (jC g (p:Int))[i]:=wX2 hi;rw[show dA (jC g (p:Int)) (i:Int)=some i by unfold dA qR;rw[wO2 ⟨by omega,by omega⟩,Int.toNat_natCast],wJ2,show eL (jC g (p:Int)) i=some (jC g (p:Int))[i]from z,wJ2];rw[Gz z,List.append_assoc]at d;obtain⟨f,e,h,h1,h2⟩:=hg.parts (yR2 hi);rw[h]at d ⊢;dsimp only;refine Ob (nY1 c h2 A d u v (fun m mp l F=>?_) (fun m q F=>?_) (by omega)) fun r hr=>?_;dsimp only;rw[wO2 (by simp;omega),show bF (g.passes-1)=g.passes-1 from bK (by omega) (by omega),nJ (by omega)];refine congrArg (Option.bind _) (funext fun r=>?_);rcases r with⟨x,y⟩|⟨x,y⟩|x<;>rfl
 grind
 rcases r with q|q|q;exact hr.elim;exact .mk hr;rw[nJ (by omega)];exact .mk ⟨⟨i+1,rfl,hi,hr⟩,by dsimp only;omega⟩;rw[wN2 (by simp;omega)];rw[List.drop_eq_nil_iff.2 (by omega)]at d;exact .mk d;rcases r with q|q|q;exact hr.elim;exact .mk hr;rw[nJ (by omega)];refine .mk ⟨⟨p+1,rfl,?_⟩,by dsimp only;omega⟩;rw[a];exact hr;rw[wN2 (by rw[a];simp;omega)];rw[a,vZ (by omega)]at g2;exact .mk g2;rcases r with q|q|q;exact hr.elim;exact .mk hr;exact .mk hr
theorem nZ1 (c:Ctx s G) (e:F50 s=some G) {mp:aA (Int×Int)} {l:aA bJ} (h:B<=7900) (j:jZ s (iD [] (fK G)) T B (tT G) (mp,l)) (u:Int) (v:aA bJ):
  Ok (lZ1 s mp l u v) (fun r=>∃q:PS,r=.inr q/\∃b,St b q.1 q.2/\T.1=b/\∀x∈b,0<=x/\x<(s.aD.length:Int)):=by
 unfold lZ1;rw[e];simp only[wJ2];have t:=c.n;have hl:=c.l;refine Ob (P:=fun r=>Exi s (iD [] (fK G)) T B [] r) (bO (l:=G) (fun(q:Int×PS)=>q.1) (fun i q=>jZ s (iD [] (fK G)) T B ((G.drop i).flatMap Dr) q.2) (by omega) rfl j (fun i x q m k hi d a hg hw=>?_) (fun q hi a=>?_)) fun r hr=>?_;obtain⟨o,f,p⟩:=q;dsimp only at hi d a hg hw ⊢;rw[wO2 (by simpa using d),hg];simp only[wJ2,sO1];rw[Gz m]at a;refine Ob (fY1 c (c.g x k) h a u v) fun r hr=>?_;rcases r with q|q|q;exact hr.elim;exact .mk hr;exact .mk ⟨hw,hr⟩;obtain⟨o,f,p⟩:=q;dsimp only at hi a ⊢;rw[hi,wN2 (by simp)];rw[List.drop_length]at a;exact .mk a;rcases r with q|q|q;exact hr.elim;obtain⟨b,h1,h2,h3⟩:=hr;exact .mk ⟨q,rfl,b,h1,by rw[h2],h3⟩;obtain⟨b,h1,h2,h3,h4⟩:=hr;exact .mk ⟨q,rfl,b,h1,by rw[<-h2];rfl,h4⟩
end Go.P
namespace Go.P
variable {s:Y0}
def Cut (a b:YM):Prop:=a.aW≠0\/a.aN≠b.aN\/b.dG=true
def lT (s:Y0) (x:bH):Prop:=∀f e:Nat,x=⟨(f:Int),(e:Int)⟩->f<e->e=s.aD.length\/Cut (gm s (e-1)) (gm s e)
theorem rJ {f e:Nat} (h:f<e->e=s.aD.length\/Cut (gm s (e-1)) (gm s e)):lT s ⟨(f:Int),(e:Int)⟩:=fun b e' he a=>by
 simp only[bH.mk.injEq]at he
 obtain⟨h1,h2⟩:=he
 have h1:f=b:=by omega
 have h2:e=e':=by omega
 subst h1 h2
 exact h a
theorem Ch.endOK {i:Nat} {acc:aA bE} {all:Int} {r:aA bE×Int×Nat} (h:Ch s i acc all r):(∀x∈acc,lT s x.span)->∀x∈r.1,lT s x.span:=by
 induction h with
 |stop h=>exact fun h=>h
 |step h1 h2 h3 ih=>
  intro b;refine ih fun x a=>?_;rcases xV2.1 a with a|a
  .exact b x a
  .rw [yJ2.1 a]
   refine rJ fun c=>?_;obtain⟨a1,a2,a3,a4⟩:=h2;rcases a4 with a4|a4
   .exact .inl a4
   .refine .inr (.inr (.inl ?_))
    rw[a3 _ (by omega) (by omega)];exact fun h=>a4 h.symm
theorem Sc.endOK {b i:Nat} {o r:aA aJ} (h:Sc s b i o r):b<=i->(∀k,b<=k->k<i->(gm s k).aN=0)->(∀x∈o,lT s x.body/\∀y∈x.endings,lT s y.span)->∀x∈r,lT s x.body/\∀y∈x.endings,lT s y.span:=by
 have app:∀{o:aA aJ} {g:aJ},(∀x∈o,lT s x.body/\∀y∈x.endings,lT s y.span)->(lT s g.body/\∀y∈g.endings,lT s y.span)->∀x∈o++[g],lT s x.body/\∀y∈x.endings,lT s y.span:=fun a hg x c=>by
  rcases xV2.1 c with c|c;exact a x c;rw[yJ2.1 c];exact hg
 induction h with
 |fin1 h=>exact fun _ _ a=>app a ⟨rJ fun _=>.inl rfl,fun y hy=>(by cases hy)⟩
 |fin0 h=>exact fun _ _ a=>a
 |ends h1 h2 h3 h4 ih=>
  intro hb e a;refine ih (wK2 _) (fun k h1 h2=>by omega) (app a ⟨rJ fun d=>.inr (.inr (.inl ?_)),fun y hy=>h3.endOK (fun x c=>(by cases c)) y hy⟩);rw[e _ (by omega) (by omega)];exact fun h=>h2 h.symm
 |start h1 h2 h3 h4 ih=>
  intro hb e a;exact ih (wK2 _) (fun k h1 h2=>by omega) (app a ⟨rJ fun d=>.inr (.inr (.inr h3.1)),fun y hy=>(by cases hy)⟩)
 |rep h1 h2 h3 h4 h5 ih=>
  intro hb e a;exact ih (wK2 _) (fun k h1 h2=>by omega) (app a ⟨rJ fun d=>.inr (.inl (by simpa using h4)),fun y hy=>(by cases hy)⟩)
 |skip h1 h2 h3 h4 h5 ih=>
  intro hb e a;refine ih (by omega) (fun k f j=>?_) a;rcases zW2 k _ with hk|hk;exact e k f hk;rw[show k=_ from Nat.le_antisymm (Nat.le_of_lt_succ j) hk];exact h2
end Go.P
namespace Go.P
variable {s:Y0}
def NC (s:Y0) (m:Int):Prop:=0<=m/\m+1<(s.aD.length:Int)/\¬Cut (gm s m.toNat) (gm s (m.toNat+1))
def Dt (s:Y0) (L:aA (Int×Bool)):Prop:=∀(k:Nat) m b,L[k]? =some (m,b)->NC s m->∃b',L[k+1]? =some (m+1,b')
theorem Dt.nil:Dt s []:=fun k m b h=>by simp at h
theorem Dt.app {A B:aA (Int×Bool)} (h:Dt s A) (h':Dt s B):Dt s (A++B):=fun k m b hk a=>by
 by_cases hl:k<A.length
 rw[yE2 hl]at hk
 obtain⟨b',hb⟩:=h k m b hk a
 exact⟨b',by rw[yE2 (wI2.1 hb).1];exact hb⟩
 rw[yW2 (by omega)]at hk
 obtain⟨b',hb⟩:=h' _ m b hk a
 exact⟨b',by rw[yW2 (by omega),show k+1-A.length=k-A.length+1 by omega];exact hb⟩
theorem Dt.flat {A:Type} {l:aA A} {f:A->aA (Int×Bool)} (h:∀x∈l,Dt s (f x)):Dt s (l.flatMap f):=by
 induction l with
 |nil=>exact Dt.nil
 |cons a r ih=>
  rw[zF2];exact(h a (List.mem_cons_self ..)).app (ih fun x b=>h x (yA2 _ b))
theorem Dt.span {b:Bool} {f e:Nat} (h:lT s ⟨(f:Int),(e:Int)⟩):Dt s (wA b ⟨(f:Int),(e:Int)⟩):=fun k m b' hk c=>by
 obtain⟨n0,i,d⟩:=c
 unfold wA vY at hk ⊢
 dsimp only at hk ⊢
 rw[xN2,xN2]at hk ⊢
 have hkl:k<((e:Int)-f).toNat:=by
  apply Decidable.byContradiction;intro hc;rw[List.getElem?_eq_none (by simp;omega)]at hk;simp at hk
 rw[yF2 hkl]at hk;simp at hk;obtain⟨g,_⟩:=hk;by_cases a:k+1<((e:Int)-f).toNat
 rw[yF2 a];exact⟨b,by simp;omega⟩;exfalso;rcases h f e rfl (by omega)with h|h;omega;refine d ?_;rw[show m.toNat=e-1 by omega,show e-1+1=e by omega];exact h
theorem Dt.steps {G:aA aJ} (c:∀x∈G,GG s.aD.length x) (h:∀x∈G,lT s x.body/\∀y∈x.endings,lT s y.span):Dt s (tT G):=by
 refine Dt.flat fun g hg=>Dt.flat fun p _=>Dt.flat fun x a=>?_;rcases xF2.1 a with rfl|a;obtain⟨f,e,he,_⟩:=(c g hg).b;rw[he];exact Dt.span (he ▸ (h g hg).1);obtain⟨y,hy,rfl⟩:=zR2.1 a;have hy:=(List.mem_filter.1 hy).1;obtain⟨⟨f,e,he,_⟩,_⟩:=(c g hg).e y hy;rw[he];exact Dt.span (he ▸ (h g hg).2 y hy)
end Go.P
namespace Go.P
variable {s:Y0}
def wB (s:Y0) (x:bH):Prop:=∀f e:Nat,x=⟨(f:Int),(e:Int)⟩->f=0\/f=s.aD.length\/Cut (gm s (f-1)) (gm s f)
theorem fZ1 {f e:Nat} (h:f=0\/f=s.aD.length\/Cut (gm s (f-1)) (gm s f)):wB s ⟨(f:Int),(e:Int)⟩:=fun a e' he=>by
 simp only[bH.mk.injEq]at he
 have h1:f=a:=by omega
 subst h1
 exact h
theorem Run.last {i j:Nat} (h:Run s i j):j=s.aD.length\/Cut (gm s (j-1)) (gm s j):=by
 obtain⟨a1,a2,a3,a4⟩:=h;rcases a4 with a4|a4;exact .inl a4;refine .inr (.inr (.inl ?_));rw[a3 _ (by omega) (by omega)];exact fun h=>a4 h.symm
theorem Ch.begOK {i:Nat} {acc:aA bE} {all:Int} {r:aA bE×Int×Nat} (h:Ch s i acc all r):(i=0\/i=s.aD.length\/Cut (gm s (i-1)) (gm s i))->(∀x∈acc,wB s x.span)->(∀x∈r.1,wB s x.span)/\(r.2.2=0\/r.2.2=s.aD.length\/Cut (gm s (r.2.2-1)) (gm s r.2.2)):=by
 induction h with
 |stop h=>exact fun hi b=>⟨b,hi⟩
 |step h1 h2 h3 ih=>
  intro hi b;refine ih (.inr h2.last) fun x a=>?_;rcases xV2.1 a with a|a
  .exact b x a
  .rw [yJ2.1 a]
   exact fZ1 hi
theorem Sc.begOK {b i:Nat} {o r:aA aJ} (h:Sc s b i o r):b<=i->(∀k,b<=k->k<i->(gm s k).aN=0)->(b=0\/b=s.aD.length\/Cut (gm s (b-1)) (gm s b))->(∀x∈o,∀y∈x.endings,wB s y.span)->∀x∈r,∀y∈x.endings,wB s y.span:=by
 have app:∀{o:aA aJ} {g:aJ},(∀x∈o,∀y∈x.endings,wB s y.span)->(∀y∈g.endings,wB s y.span)->∀x∈o++[g],∀y∈x.endings,wB s y.span:=fun a hg x c=>by
  rcases xV2.1 c with c|c;exact a x c;rw[yJ2.1 c];exact hg
 induction h with
 |fin1 h=>exact fun _ _ _ a=>app a fun y hy=>(by cases hy)
 |fin0 h=>exact fun _ _ _ a=>a
 |@ends b i o acc all e r h1 h2 h3 h4 ih=>
  intro hb d hc a
  have hi:i=0\/i=s.aD.length\/Cut (gm s (i-1)) (gm s i):=by
   rcases zW2 b i with l|hge;refine .inr (.inr (.inr (.inl ?_)));rw[d (i-1) (by omega) (by omega)];exact fun h=>h2 h.symm;rw[<-Nat.le_antisymm hb hge];exact hc
  obtain⟨f,j⟩:=h3.begOK hi (fun x c=>by cases c);exact ih (wK2 _) (fun k h1 h2=>by omega) j (app a f)
 |start h1 h2 h3 h4 ih=>
  intro hb d hc a;exact ih (wK2 _) (fun k h1 h2=>by omega) (.inr (.inr (.inr (.inr h3.1)))) (app a fun y hy=>(by cases hy))
 |rep h1 h2 h3 h4 h5 ih=>
  intro hb d hc a;exact ih (wK2 _) (fun k h1 h2=>by omega) (.inr (.inr (.inl (by simpa using h4)))) (app a fun y hy=>(by cases hy))
 |skip h1 h2 h3 h4 h5 ih=>
  intro hb d hc a;refine ih (by omega) (fun k f j=>?_) hc a;rcases zW2 k _ with hk|hk;exact d k f hk;rw[show k=_ from Nat.le_antisymm (Nat.le_of_lt_succ j) hk];exact h2
theorem Nw:∀{l:aA bE} {k:Int},k∈kE l->∃y∈l,k∈vY y.span.first y.span.end'/\∀k'∈vY y.span.first y.span.end',k'∈kE l
 |[],k,h=>by cases h
 |[_],k,h=>by cases h
 |x::y::r,k,h=>by
  rw[kE]at h
  rcases xV2.1 h with h|h
  exact⟨x,List.mem_cons_self ..,h,fun k' hk=>by rw[kE];exact List.mem_append_left _ hk⟩
  obtain⟨z,z1,z2,z3⟩:=Nw h
  exact⟨z,yA2 _ z1,z2,fun k' hk=>by rw[kE];exact List.mem_append_right _ (z3 k' hk)⟩
theorem Uv {a b k:Int}:k∈vY a b↔a<=k/\k<b:=by
 refine⟨fun h=>Us h,fun⟨h1,h2⟩=>?_⟩;unfold vY;exact zR2.2 ⟨(k-a).toNat,aI3.2 (by omega),by omega⟩
theorem Yk {G:aA aJ} (d:∀x∈G,GG s.aD.length x) (hb:∀x∈G,∀y∈x.endings,wB s y.span) {m:Int} (i:NC s m) (h:m+1∈fK G):m∈fK G:=by
 unfold fK at h ⊢;obtain⟨g,hg,hk⟩:=List.mem_flatMap.1 h;obtain⟨y,b,c,k⟩:=Nw hk;refine List.mem_flatMap.2 ⟨g,hg,k _ (Uv.2 ?_)⟩;obtain⟨⟨f,e,he,h1,h2⟩,_⟩:=(d g hg).e y b;have a:=hb g hg y b f e he;rw[he]at c ⊢;have h3:=Uv.1 c;dsimp only at h3 ⊢;obtain⟨n0,l,j⟩:=i;refine⟨?_,by omega⟩;apply Decidable.byContradiction;intro hc;have hf:m.toNat+1=f:=by omega
 rcases a with a|a|a;omega;omega;refine j ?_;rw[hf,show m.toNat=f-1 by omega];exact a
def NJ (s:Y0) (m:Int):Prop:=NC s m/\(gm s m.toNat).hU=0/\tS s m.toNat 4=false/\tS s m.toNat 8=false
def jI (s:Y0) (L:aA Int):Prop:=∀(k:Nat) m,L[k]? =some m->NJ s m->L[k+1]? =some (m+1)
theorem jI.nil:jI s []:=fun k m h=>by simp at h
theorem jI.cons {x:Int} {r:aA Int} (h:jI s r) (h0:NJ s x->r[0]? =some (x+1)):jI s (x::r):=fun k m hk a=>by
 cases k with
 |zero=>
  simp only[yQ2,wP2]at hk
  subst hk
  simpa using h0 a
 |succ k=>
  rw[List.getElem?_cons_succ]at hk ⊢
  exact h k m hk a
theorem jI.tail {x:Int} {r:aA Int} (h:jI s (x::r)):jI s r:=fun k m hk a=>by
 have:=h (k+1) m (by rw[List.getElem?_cons_succ];exact hk) a
 rwa [List.getElem?_cons_succ]at this
theorem jI.once {SK:aA (Int×Bool)} (a:∀m,NC s m->fJ SK m false=false->fJ SK (m+1) false=false):∀(d:Nat) (f:Int),(s.aD.length-f).toNat=d->jI s (jH SK s.aD.length f)
 |0,f,h=>by
  unfold jH
  rw[vZ (by omega)]
  exact jI.nil
 |d+1,f,h=>by
  have ih:=jI.once a d (f+1) (by omega)
  unfold jH at ih ⊢
  rw[oN (by omega),List.filter_cons]
  split
  rename_i hc
  refine ih.cons fun b=>?_
  have h1:=b.1.2.1
  have h2:=a f b.1 (by simpa using hc)
  rw[oN (by omega),List.filter_cons,wO2 (by rw[h2];rfl)]
  rfl
  exact ih
theorem jI.cut {st:Int} {cl:aA Int} (b:st=0\/st=4\/st=8) (hc:jI s cl):∀{l:aA Int},jI s l->jI s (rI s st cl l)
 |[],h=>h
 |m::r,h=>by
  have ih:=jI.cut b hc h.tail
  rw[rI]
  split
  rename_i hs
  refine jI.cons ?_ fun c=>?_
  split
  exact hc
  exact jI.nil
  exfalso
  obtain⟨_,_,d,e⟩:=c
  rcases b with rfl|rfl|rfl
  exact hs.1 rfl
  rw[d]at hs;cases hs.2
  rw[e]at hs;cases hs.2
  refine ih.cons fun c=>?_
  have:=h 0 m rfl c
  cases r with
  |nil=>cases this
  |cons a r=>
   simp only[List.getElem?_cons_succ,yQ2,wP2]at this
   rw[rI,this]
   rfl
theorem gA1 (j:Int):lS j=0\/lS j=4\/lS j=8:=by
 unfold lS;split;exact .inr (.inl rfl);split;exact .inr (.inr rfl);exact .inl rfl
theorem jI.run {aft:Int->aA Int} (d:∀j,jI s (aft j)):∀{R:aA (Int×Bool)} (c:aA Int),Dt s R->∃T,(Et (Jp s) aft c R).1=c++T/\jI s T/\∀x r,R=x::r->T[0]? =some x.1
 |[],c,h=>⟨[],by simp[Et],jI.nil,fun x r h=>by cases h⟩
 |x::r,c,h=>by
  rw[Et]
  split
  refine⟨x.1::aft (Jp s x.1),by simp,(d _).cons fun a=>?_,fun y r h=>by cases h;rfl⟩
  rename_i e
  exact absurd a.2.1 e.1
  have f:Dt s r:=fun k m b hk a=>by
   have:=h (k+1) m b (by rw[List.getElem?_cons_succ];exact hk) a
   simpa only[List.getElem?_cons_succ]using this
  obtain⟨T,h1,h2,h3⟩:=jI.run d (c++[x.1]) f
  refine⟨x.1::T,by rw[h1];simp,h2.cons fun a=>?_,fun y r h=>by cases h;rfl⟩
  obtain⟨b',hb⟩:=h 0 x.1 x.2 rfl a.1
  cases r with
  |nil=>cases hb
  |cons y r=>
   simp only[List.getElem?_cons_succ,yQ2,wP2]at hb
   rw[h3 y r rfl,hb]
end Go.P
namespace Go.P
variable {s:Y0} {G:List aJ}
theorem Nx {J:Int->Int} {aft:Int->aA Int} {k:Nat} (h:∀j,(aft j).length<=k):∀(R:aA (Int×Bool)) (a:aA Int),(Et J aft a R).1.length<=a.length+R.length+k
 |[],a=>by simp[Et]
 |x::r,a=>by
  rw[Et,xR2]
  split
  grind
  have:=Nx (J:=J) h r (a++[x.1])
  rw[xD2,List.length_singleton]at this
  omega
theorem Ny {st:Int} {cl:aA Int}:∀l:aA Int,(rI s st cl l).length<=l.length+cl.length
 |[]=>by simp[rI]
 |m::r=>by
  rw[rI,xR2,xR2]
  split
  grind
  have:=Ny (st:=st) (cl:=cl) r
  omega
theorem gB1 (c:Ctx s G) (SK:aA (Int×Bool)) (j:Int):(xP s SK j).length<=42:=by
 have e:=c.n
 have a:∀b,-1<=pP s b:=fun b=>by
  rcases(Jz (s:=s) (by omega) b).2 with⟨h,_⟩|⟨i,h,_⟩<;>rw[h]<;>omega
 have d:∀f:Int,-1<=f->(jH SK s.aD.length f).length<=21:=fun f hf=>by
  have:=List.length_filter_le (fun k=> !(fJ SK k false)) (vY f (s.aD.length:Int));rw[Ab]at this;unfold jH;omega
 have h1:=d (pP s 2) (a 2);have h2:=d (if j>=4 then pP s 1 else 0) (by split;exact a 1;omega);have h3:=Ny (s:=s) (st:=lS j) (cl:=jH SK s.aD.length (pP s 2)) (jH SK s.aD.length (if j>=4 then pP s 1 else 0));unfold xP;omega
theorem vB1 (hs:s.sm) (hv:Dc s=some true):∃G,Ctx s G/\F50 s=some G/\Sc s 0 0 [] G:=by
 have j:=hs.aD
 obtain⟨⟨g,hg⟩,d⟩:(∃g,kV s g)/\∀i,i<s.aD.length->Jm s i:=by
  by_cases h0:0<s.aD.length;have hr:=eV1 hs h0 hv;exact⟨fN1 hs hr.r14,Nt hs hr.r15⟩;exact⟨⟨fun _=>z0,rfl,fun i hi=>by omega,fun i hi=>by omega⟩,fun i hi=>by omega⟩
 obtain⟨G,a,c⟩:=uX1 (s:=s) (by omega) (fun i hi=>hg.E hi);obtain⟨f,h⟩:=c.good (fun i hi=>⟨hg.E hi,(hg.b i hi).1⟩) (wK2 _) (xA2 _) (fun x e=>by simp at e) (by simp);exact⟨G,⟨by omega,f,h,d⟩,a,c⟩
theorem Ha (ks:aA Int) (k:Int):∀m:aA (Int×Bool),fJ (iD m ks) k false=true↔k∈ks\/fJ m k false=true:=by
 induction ks with
 |nil=>intro m;simp[iD]
 |cons a r ih=>
  intro m;have:iD m (a::r)=iD (kM m a true) r:=rfl;rw[this,ih,rX];by_cases h:k=a;subst h;simp;have h':¬a=k:=fun e=>h e.symm;simp[h,h']
theorem vC1 (hs:s.sm) (hv:Dc s=some true):∃d:aA Int,F12 s=some (nX [] d,0)/\jI s d/\d.length<=8192/\∀m∈d,0<=m/\m<(s.aD.length:Int):=by
 obtain⟨G,c,o,e⟩:=vB1 hs hv;have z:=Rn c.g c.l c.n;obtain⟨r,hr,q,rfl,d,h1,h2,h3⟩:=nZ1 c o (B:=7900) (T:=Et (Jp s) (xP s (iD [] (fK G))) [] (tT G)) (mp:=[]) (l:=[]) (wK2 _) ⟨[],St.nil,rfl,by simp;omega,fun x i=>by simp at i⟩ 0 [];have u:Dt s (tT G):=Dt.steps c.g (e.endOK (wK2 _) (fun k h1 h2=>by omega) (fun x i=>by cases i));have v:=e.begOK (wK2 _) (fun k h1 h2=>by omega) (.inl rfl) (fun x i=>by cases i)
 have t:∀m,NC s m->fJ (iD [] (fK G)) m false=false->fJ (iD [] (fK G)) (m+1) false=false:=fun m w h=>by
  cases hc:fJ (iD [] (fK G)) (m+1) false with
  |false=>rfl
  |true=>
   rcases(Ha _ _ _).1 hc with hk|hk;rw[(Ha _ _ _).2 (.inl (Yk c.g v w hk))]at h;cases h;cases hk
 obtain⟨T,p,y,_⟩:=jI.run (aft:=xP s (iD [] (fK G))) (fun j=>jI.cut (gA1 j) (jI.once t _ _ rfl) (jI.once t _ _ rfl)) [] u;rw[h2]at p;simp only[aB3]at p;subst p;refine⟨d,?_,y,?_,h3⟩;unfold F12;rw[hv];simp only[wJ2];rw[wN2 (by decide)];unfold sN1;simp only[wJ2];rw[hr];obtain⟨a,b⟩:=q;dsimp only at h1;rw[h1.1];rfl;have f:=Nx (J:=Jp s) (aft:=xP s (iD [] (fK G))) (k:=42) (fun j=>gB1 c _ j) (tT G) [];rw[h2]at f;simp only[wW2]at f;omega
end Go.P
namespace Go.P
variable {s:Y0}
theorem Uw (m:Int):∀p q:aA Int,cnt (nX q p) m=p.count m
 |[],q=>rfl
 |a::r,q=>by
  have ih:=Uw m r (q++[a])
  unfold cnt at ih ⊢
  rw[nX,List.countP_cons,ih,List.count_cons]
theorem gC1 {n:Nat}:∀(r p:aA Int),(∀m∈r,0<=m/\m<(n:Int))->wr n (nX [] p) (nX p r)=0
 |[],p,_=>by rw[nX];rfl
 |m::r,p,h=>by
  have b:=h m (List.mem_cons_self ..)
  rw[nX,wr]
  dsimp only
  rw[wN2 (by omega),Uw,wN2 (fun h=>h rfl)]
  have:=gC1 r (p++[m]) fun x a=>h x (yA2 _ a)
  rw[Dn]at this
  simpa using this
theorem qF1 {a:aA Int} {i:Nat} {b:bJ} (h:(nX [] a)[i]? =some b):a[i]? =some b.aY:=by
 have hi:=(wI2.1 h).1;rw[pO]at hi;rw[Jy a [] i hi]at h;rw[<-yK2 h,wX2 hi]
theorem gD1 {a:aA Int} {i:Nat} {m:Int} (h:a[i]? =some m):∃b,(nX [] a)[i]? =some b/\b.aY=m:=by
 obtain⟨hi,rfl⟩:=wI2.1 h;exact⟨_,Jy a [] i hi,rfl⟩
theorem oA1:∀a:Fin 16,dU .i64 (a.val:Int) 12=0->(dU .i64 (a.val:Int) 4 !=0)=false/\(dU .i64 (a.val:Int) 8 !=0)=false:=by decide+kernel
theorem qG1 (hs:s.sm) (hv:Dc s=some true) {d:aA Int} (f:jI s d) {n:aI} (g:nS (jO s) (Yu s) n) {k i:Nat} (hk:d[k]? =some (i:Int)) (hi:i<s.aD.length) (h2:n.On<jO s (i+1)) (h3:jO s (i+1)<n.Off):i+1<s.aD.length/\d[k+1]? =some ((i+1:Nat):Int):=by
 have h1:s.aD[i]? =some (gm s i):=by rw[wX2 hi,vX (wX2 hi)]
 obtain⟨b,hb,m,o,p,q,r,t⟩:=dZ2 hs hv g h1 h2 h3;have a:=(wI2.1 hb).1;have e:=Nt hs (eV1 hs (by omega) hv).r15 i hi;have hl:=oA1 ⟨(gm s i).cZ.toNat,by have:=e.l;omega⟩;have c:(((gm s i).cZ.toNat:Nat):Int)=(gm s i).cZ:=by have:=e.l;omega
 dsimp only at hl;rw[c]at hl;obtain⟨h,j⟩:=hl p;have:=f k i hk ⟨⟨by omega,by omega,fun hc=>?_⟩,by rw[Int.toNat_natCast];exact o,by rw[Int.toNat_natCast];exact h,by rw[Int.toNat_natCast];exact j⟩;exact⟨a,this⟩;rw[Int.toNat_natCast,vX hb]at hc;rcases hc with hc|hc|hc;exact hc m;exact hc q;rw[r]at hc;cases hc
theorem eF2 {b:bJ} {i:Nat} (hb:b.aY=(i:Int)) {m:YM} (a:s.aD[i]? =some m):ln s b=ml m:=by
 unfold ln ml;rw[hb,zY,a]
 all_goals rfl
theorem gE1 (hs:s.sm) (hv:Dc s=some true) (hg:dO s) {a:aA Int} (g:jI s a) (c:∀b∈nX [] a,0<=b.aY/\b.aY<(s.aD.length:Int)) {n:aI} (l:nS (jO s) (Yu s) n):
  ∀(d i k:Nat),s.aD.length-i<=d->a[k]? =some (i:Int)->n.On<jO s (i+1)->n.Off-jO s i<=kY s (nX [] a) a.length-kY s (nX [] a) k
 |0,i,k,hd,hk,ho=>by
  obtain⟨b,hb,e⟩:=gD1 hk
  have:=c b (wT2 hb)
  omega
 |d+1,i,k,hd,hk,ho=>by
  obtain⟨b,hb,e⟩:=gD1 hk
  have hi:=c b (wT2 hb)
  have hkl:=(wI2.1 hk).1
  have j:s.aD[i]? =some (gm s i):=by
   have f:i<s.aD.length:=by omega
   rw[wX2 f,vX (wX2 f)]
  have m:=sA (s:=s) hb;rw[eF2 e j]at m;have e2:=vW j;by_cases hc:jO s (i+1)<n.Off;obtain⟨o,g2⟩:=qG1 hs hv g l hk (by omega) ho hc;have:=gE1 hs hv hg g c l d (i+1) (k+1) (by omega) g2 (Int.lt_of_lt_of_le ho (Ns hs hg _ _ (by omega)));omega
  have:kY s (nX [] a) (k+1)<=kY s (nX [] a) a.length:=by
   rcases zW2 (k+1) a.length with h|h;exact Int.le_of_lt (Dk hg c h (by rw[pO];omega));rw[show k+1=a.length by omega];exact yD2 _
  omega
theorem Ka {M i:Nat} (h:i<=M):bB ((List.range (M+1)).map (jO s)) (i:Int)=some (jO s i):=by
 rw[zY,xN2,yF2 (by omega)];rfl
theorem Ux {l:aA bJ} {k:Nat} (h:k<=l.length):bB (ons s l) (k:Int)=some (kY s l k):=by
 unfold ons;rw[zY,xN2,yF2 (by omega)];rfl
theorem NL2 (hs:s.sm) (hv:Dc s=some true) (hg:dO s) {a:aA Int} (R:jI s a) (hl:a.length<=8192) (e:∀b∈nX [] a,0<=b.aY/\b.aY<(s.aD.length:Int)) {all:aA aI} (L:aS (jO s) (Yu s) all) (h3:all.length<=115200):
  Ok (NL (ons s (nX [] a)) ((List.range (s.aD.length+1)).map (jO s)) all (nX [] a)) (fun r=>r.length<=943718400/\∀n∈r,0<=n.On/\n.Off<=kY s (nX [] a) a.length):=by
 have hM:=hs.aD;have S:=pO a [];unfold NL;refine bO (l:=nX [] a) (fun q=>q.1) (fun i q=>q.2.length<=115200*i/\∀n∈q.2,0<=n.On/\n.Off<=kY s (nX [] a) a.length) (by omega) rfl ⟨wK2 _,fun n W=>(by cases W)⟩ (fun i b q g V hi C u B hw=>?_) (fun q hi u=>?_);obtain⟨k,o⟩:=q;dsimp only at hi C u B hw;have T:=(wI2.1 g).1;have hb:=e b V;obtain⟨m,w⟩:∃m:Nat,b.aY=(m:Int):=⟨b.aY.toNat,by omega⟩
 have F:=qF1 g;rw[w]at F;simp only[C,B,nt];have G:=Ka (s:=s) (M:=s.aD.length) (i:=m) (by omega);have E:=Ka (s:=s) (M:=s.aD.length) (i:=m+1) (by omega);have H:=Ux (s:=s) (l:=nX [] a) (k:=i) (by omega);rw[hi,w,G,H,bK (n:=(m:Int)+1) (by omega) (by omega),show((m:Int)+1)=((m+1:Nat):Int)from rfl,E];have b1:=Dm hs hg m;have b2:=Dm hs hg (m+1);have b3:=zX hg e (i:=i) (by omega);have b4:=zX hg e (i:=a.length) (by omega);refine Ob (P:=fun r=>r.length<=o.length+115200/\∀n∈r,0<=n.On/\n.Off<=kY s (nX [] a) a.length) (bO (l:=all) (fun q=>q.1) (fun j q=>q.2.length<=o.length+j/\∀n∈q.2,0<=n.On/\n.Off<=kY s (nX [] a) a.length) (by omega) rfl ⟨wK2 _,u.2⟩ (fun j n q J D d f c A p=>?_) (fun q d c=>?_)) fun r hr=>.mk ⟨by rw[hi]at hw;exact hw,by dsimp only;omega,hr.2⟩;obtain⟨k2,K⟩:=q;dsimp only at d f c A p;have U:=(wI2.1 J).1;simp only[f,A,nt];by_cases c1:n.On>=jO s m/\n.On<jO s (m+1);obtain⟨c1,c2⟩:=c1;have N:decide (n.On>=jO s m)=true:=by simpa using c1
 have O:decide (n.On<jO s (m+1))=true:=by simpa using c2
 simp only[N,O,xM2,wJ2];have Y:=gE1 hs hv hg R e (L n D) _ m i (wK2 _) F c2;have X:=(L n D).1;rw[bK (n:=kY s (nX [] a) i-jO s m) (by omega) (by omega),bK (n:=n.On+_) (by omega) (by omega),bK (n:=n.Off+_) (by omega) (by omega)];refine Ob (P:=fun r=>r.2.2.length<=K.length+1/\∀n∈r.2.2,0<=n.On/\n.Off<=kY s (nX [] a) a.length) (Ob (eM (Q:=fun v=>v.length<=K.length+1/\∀n∈v,0<=n.On/\n.Off<=kY s (nX [] a) a.length) (by omega) ⟨by simp,fun x g=>?_⟩) fun v hv=>.mk hv) fun⟨x,y,z⟩ h=>.mk ⟨p,by have:=h.1;dsimp only at this ⊢;omega,h.2⟩;rcases xV2.1 g with g|g;exact c.2 x g;rw[yJ2.1 g];dsimp only;omega;refine Ob (P:=fun r=>r=false) (Oi (fun hc=>.mk ?_) (fun _=>.mk rfl)) fun t Z=>?_;simp at hc ⊢;omega;rw[Z];exact .mk ⟨p,by dsimp only;omega,c.2⟩;obtain⟨k2,K⟩:=q;dsimp only at d c;simp only[d,nf];exact .mk ⟨by omega,c.2⟩;obtain⟨k,o⟩:=q;dsimp only at hi u;simp only[hi,nf];exact .mk ⟨by omega,u.2⟩
theorem pM2 (hb:s.b):F4 s=some true:=by
 unfold F4;obtain⟨r,hr,W⟩:=U13 hb;rw[hr];cases r with
 |false=>rfl
 |true=>
 have hs:=W rfl;have hM:=hs.aD;obtain⟨v,hv,_⟩:=T11 hs;simp only[wJ2,zI2,wU2,xQ2,hv];cases v with
 |false=>rfl
 |true=>
 simp only[zI2,wU2,xQ2];have hg:=dH2 hs hv;obtain⟨d,K,hA,hl,D⟩:=vC1 hs hv;have A:=pO d [];have J:=gC1 (n:=s.aD.length) d [] D;have e:∀b∈nX [] d,0<=b.aY/\b.aY<(s.aD.length:Int):=dL2 J;have w:=dM2 hs hv (l:=nX [] d) (by omega);rw[show wr s.aD.length [] (nX [] d)=0 from J]at w;have o:=uN1 hs hg (by omega) w e
 have p:F14 s=some ((List.range (s.aD.length+1)).map (jO s),0):=by
  unfold F14;rw[hv];simp only[wJ2];rw[wN2 (by decide),fM1 hs hg];rfl
 obtain⟨⟨all,z⟩,u,rfl,L,y⟩:=pK2 hs hv hg;dsimp only at L y;obtain⟨n,n1,n2,n3⟩:=NL2 hs hv hg hA hl e L y;obtain⟨r,r1,r2⟩:=Uq (l:=n) (by omega);have b0:=r2.1.length_eq;have h8:=dN2 o p u;rw[n1,wJ2,r1,wJ2]at h8;rw[K,wJ2];dsimp only;rw[h8,o,p,u];simp only[wJ2];have V:(ons s (nX [] d)).length=d.length+1:=by simp[ons,pO]
 rw[wN2 (by rw[V,A,bK (by omega) (by omega)];simp;rw[bK (by omega) (by omega)])];refine Jn (a:=.inr ()) (nO1 (l:=r) (by omega) (fun i x h hg hw=>?_) ?_) ?_;have R:=(wI2.1 h).1;have b5:=n3 x (r2.1.mem_iff.1 (wT2 h));rw[wO2 (by simp;omega),hg];simp only[wJ2];rw[wN2 (by simp;omega),Ux (wK2 _),A];simp only[wJ2];rw[wN2 (by simp;omega),hw];rw[wN2 (by simp)];dsimp only;refine Jn (a:=.inr ()) (Ok.eq (bO (l:=nX [] d) (fun q=>q) (fun _ _=>True) (by omega) rfl trivial (fun k b q h _ hi S _ N H=>?_) (fun q hi _=>?_))) rfl;have R:=(wI2.1 h).1;have hb:=e b (wT2 h);obtain⟨m,B⟩:∃m:Nat,b.aY=(m:Int):=⟨b.aY.toNat,by omega⟩
 have G:=qF1 h;rw[B]at G;simp only[S,N,nt];have U:=Ka (s:=s) (M:=s.aD.length) (i:=m) (by omega);have F:=Ka (s:=s) (M:=s.aD.length) (i:=m+1) (by omega);have Y:bF ((m:Int)+1)=((m+1:Nat):Int):=by rw[bK (by omega) (by omega)];rfl
 rw[hi,B,U,Y,F];refine Ob (P:=fun r=>r=.inr ()) (bO (l:=all) (fun q=>q) (fun _ _=>True) (by omega) rfl trivial (fun j x q b4 T C E _ O f=>?_) (fun q C _=>?_)) fun r hr=>?_;simp only[E,O,nt];by_cases c:x.On<jO s (m+1)/\jO s (m+1)<x.Off;obtain⟨g1,g2⟩:=qG1 hs hv hA (L x T) G (by omega) c.1 c.2;obtain⟨b',e1,e2⟩:=gD1 g2;have a0:=(wI2.1 g2).1;have X:bF ((k:Int)+1)=((k+1:Nat):Int):=by rw[bK (by omega) (by omega)];rfl
 have Z:decide (x.On<jO s (m+1))=true:=by simpa using c.1
 have d2:decide (x.Off>jO s (m+1))=true:=by simpa using c.2
 have d3:decide (((k+1:Nat):Int)>=((nX [] d).length:Int))=false:=by simp;omega
 have d5:(b'.aY !=((m+1:Nat):Int))=false:=by rw[e2];simp
 by_cases g:x.On>=jO s m;have g:decide (x.On>=jO s m)=true:=by simpa using g
 simp only[Z,d2,xM2,wJ2,g,X,d3,wU2,xQ2,zY,e1,d5];exact .mk ⟨f,trivial⟩;have g:decide (x.On>=jO s m)=false:=by simpa using g
 simp only[Z,d2,xM2,wJ2,g,wU2,xQ2];exact .mk ⟨f,trivial⟩;refine Ob (P:=fun r=>r=false) (Oi (fun hc=>.mk ?_) (fun _=>.mk rfl)) fun t ht=>?_;simp at hc ⊢;omega;rw[ht];exact .mk ⟨f,trivial⟩;simp only[C,nf];exact .mk rfl;rw[hr];rw[hi]at H;exact .mk ⟨H,trivial⟩;simp only[hi,nf];exact .mk rfl
end Go.P
