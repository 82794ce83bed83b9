import Derived.Test.YtaghiddbmfnakaaGreatLaB
/- A text of the proof. -/
set_option linter.all false
namespace Go.P
open Go.Sim (dV CK Ex RV maxRoom)
inductive PV where
 |v (x:Value)
 |is (esz:Nat) (rows:List (List PV))
 |ip (cells:List PV)
 |im (es:List (PV×PV))
 |ref (k o:Nat)
 |own (k:Nat)
 |el (k i o:Nat)
 |map (k:Nat)
 |fn (f:FuncId) (first cap:List PV)
 |agg (cells:List PV)
 |tup (vs:List PV)
 |undef
 |yld (k:Nat)
 |zs (d e:Nat) (rows:List (List PV))
 |zm (es:List (PV×PV))
 deriving Inhabited
inductive PX where
 |t (i:Nat)
 |c (x:PV)
 deriving Inhabited
inductive gJ where
 |nil
 |op (d:Nat) (k:dV) (xs:List PX) (kill:List Nat) (cJ:gJ)
 |sto (k:dV) (xs:List PX) (kill:List Nat) (cJ:gJ)
 |ifx (d c:Nat) (w:Bool) (body:gJ) (x:PX) (kill:List Nat) (cJ:gJ)
 |ifn (d c:Nat) (w:Bool) (body:gJ) (x:PX) (kill:List Nat) (cJ:gJ)
 |mkfl (d:Nat) (ty:TypeId) (zero:List Value) (xs:List PX) (kill:List Nat) (cJ:gJ)
 |lax (d:Nat) (es:List (Option Nat)) (cJ:gJ)
 |own (d:Nat) (ty:TypeId) (e:Nat) (g:Bool) (cJ:gJ)
 |ownc (d j:Nat) (ty:TypeId) (e:Nat) (g:Bool) (cJ:gJ)
 |laxc (d j e:Nat) (cJ:gJ)
 |fz (d:Nat) (j:Option Nat) (cJ:gJ)
 |laxm (d:Nat) (j:Option Nat) (cJ:gJ)
 deriving Inhabited
inductive PC where
 |skip
 |reg (ops:gJ)
 |regD (dr:Nat) (ops:gJ) (before:List Nat)
 |dead (c:Go.Sim.IC)
 |regX (dr:Nat) (ops:gJ) (before:List Nat) (ex:List (Nat×Nat×Nat×Nat))
 |seq (a b:PC)
 |cond (c:PX) (a b:PC)
 |condJ (keep:List Nat) (c:PX) (a b:PC)
 |condL (c:PX) (a b:PC)
 |block (id:Nat) (c:PC)
 |loop (keep kx:List Nat) (c:PC)
 |loopU (m:Nat) (keep:List Nat) (c:PC)
 |rangeF (N:Nat) (keep:List Nat) (f:PX) (params:List Nat) (asn body:PC)
 |exit (id:Nat)
 |ret
 deriving Inhabited
abbrev dZ:=aA (Nat×PV)
inductive gD where
 |box (cells:List PV)
 |lst (ty:TypeId) (esz:Nat) (g:Bool) (rows:List (List PV))
 |mp (es:List (PV×PV))
 |fl (fs:List PV)
 |lz (ty:TypeId) (esz dp:Nat) (rows:List (List PV))
 |loop (N:Nat) (e:dZ) (params:List Nat) (asn body:PC) (busy:Bool) (fin:Option Ex)
abbrev aT:=aA (Nat×gD)
def fU (ty:Nat):Bool:=Nat.ble 4294967296 ty
def Ab (ty:Nat):Nat:=bif fU ty then ty-4294967296 else ty
theorem Rc:∃f:{R:Type}->Bool->aB R->aB R->aB R,∀{R:Type} b (x y:aB R),f b x y=if b then x else y:=⟨fun b x y=>if b then x else y,fun _ _ _=>rfl⟩
noncomputable def Hh {R:Type} (b:Bool) (x y:aB R):aB R:=Classical.choose Rc b x y
theorem mJ {R:Type} (b:Bool) (x y:aB R):Hh b x y=if b then x else y:=lA2 Rc b x y
theorem Ff:∃f:{A R:Type}->aB A->(A->aB R)->aB R,∀{A R:Type} (x:aB A) (k:A->aB R),f x k=x.bind k:=⟨fun x k=>x.bind k,fun _ _=>rfl⟩
noncomputable def cA {A R:Type} (x:aB A) (k:A->aB R):aB R:=Classical.choose Ff x k
theorem bT {A R:Type} (x:aB A) (k:A->aB R):cA x k=x.bind k:=lA2 Ff x k
noncomputable section
variable {R:Type}
def Ir (x:Value) (K:Value->aB R):aB R:=
 match x with
 |.int k n=>K (.int k n)
 |.bool b=>K (.bool b)
 |.string s=>K (.string s)
 |x=>K x
def fPV (x:PV) (K:PV->aB R):aB R:=
 match x with
 |.v x=>Ir x fun x=>K (.v x)
 |.is e rows=>K (.is e rows)
 |.ip cs=>K (.ip cs)
 |.im es=>K (.im es)
 |.ref k o=>K (.ref k o)
 |.own k=>K (.own k)
 |.el k i o=>K (.el k i o)
 |.map k=>K (.map k)
 |.fn f a b=>K (.fn f a b)
 |.agg cs=>K (.agg cs)
 |.tup cs=>K (.tup cs)
 |.undef=>K .undef
 |.yld k=>K (.yld k)
 |.zs d e rows=>K (.zs d e rows)
 |.zm es=>K (.zm es)
def rI:aA PV->(aA PV->aB R)->aB R
 |[],K=>K []
 |x::xs,K=>fPV x fun x=>rI xs fun xs=>K (x::xs)
def fV (x:PV) (K:PV->aB R):aB R:=
 match x with
 |.v x=>Ir x fun x=>K (.v x)
 |.agg cs=>rI cs fun cs=>K (.agg cs)
 |.tup cs=>fT cs fun cs=>K (.tup cs)
 |.ip cs=>rI cs fun cs=>K (.ip cs)
 |.is e rows=>K (.is e rows)
 |.im es=>K (.im es)
 |.ref k o=>K (.ref k o)
 |.own k=>K (.own k)
 |.el k i o=>K (.el k i o)
 |.map k=>K (.map k)
 |.fn f a b=>rI a fun a=>rI b fun b=>K (.fn f a b)
 |.undef=>K .undef
 |.yld k=>K (.yld k)
 |.zs d e rows=>K (.zs d e rows)
 |.zm es=>K (.zm es)
 where
 fT:aA PV->(aA PV->aB R)->aB R
 |[],K=>K []
 |x::xs,K=>(match x with
   |.agg cs=>rI cs fun cs=>fT xs fun xs=>K (.agg cs::xs)
   |x=>fPV x fun x=>fT xs fun xs=>K (x::xs))
def nE:dZ->Nat->(PV->aB R)->aB R
 |[],_,_=>none
 |(j,v)::r,i,K=>bif Nat.beq j i then K v else nE r i K
def zB:Nat->aA Nat->Bool
 |_,[]=>false
 |i,j::js=>bif Nat.beq i j then true else zB i js
def gR:dZ->aA Nat->(dZ->aB R)->aB R
 |[],_,K=>K []
 |(j,v)::r,is,K=>bif zB j is then gR r is K else gR r is fun r=>K ((j,v)::r)
def nY (e:dZ):aA PX->(aA PV->aB R)->aB R
 |[],K=>K []
 |.t i::xs,K=>nE e i fun v=>nY e xs fun vs=>K (v::vs)
 |.c x::xs,K=>nY e xs fun vs=>K (x::vs)
def nZ:Nat->aA PV->(aA PV->aB R)->aB R
 |0,_,K=>K []
 |_+1,[],_=>none
 |n+1,a::as,K=>nZ n as fun l=>K (a::l)
def gE:Nat->aA PV->(aA PV->aB R)->aB R
 |0,l,K=>K l
 |_+1,[],_=>none
 |n+1,_::as,K=>gE n as K
def pX:aA PV->Nat->aA PV->(aA PV->aB R)->aB R
 |l,0,[],K=>K l
 |[],_,_,_=>none
 |_::as,0,c::cs,K=>pX as 0 cs fun l=>K (c::l)
 |a::as,n+1,cs,K=>pX as n cs fun l=>K (a::l)
def hK:aT->Nat->(gD->aB R)->aB R
 |[],_,_=>none
 |(j,v)::r,i,K=>bif Nat.beq j i then K v else hK r i K
def gF:aT->Nat->gD->(aT->aB R)->aB R
 |[],_,_,_=>none
 |(j,v)::r,i,o,K=>bif Nat.beq j i then K ((j,o)::r)else gF r i o fun r=>K ((j,v)::r)
def lI (x:PV) (K:aA PV->aB R):aB R:=
 match x with
 |.agg cs=>K cs
 |.tup _=>none
 |.undef=>none
 |x=>K [x]
def kEq (a b:IntKind):Bool:=
 match a,b with
 |.i8,.i8|.i16,.i16|.i32,.i32|.i64,.i64|.u8,.u8|.u16,.u16|.u32,.u32|.u64,.u64=>true
 |_,_=>false
def fU1 (op:BinOp) (x y:PV) (K:PV->aB R):aB R:=
 match x,y with
 |.v x,.v y=>
  match x,y with
  |.int k a,.int k' b=>
   match op with
   |.shl=>cA (if b<0 then none else some (k.wrap (a*2^min b.toNat k.bits))) fun r=>K (.v (.int k r))
   |.shr=>cA (if b<0 then none else some (a.fdiv (2^min b.toNat k.bits))) fun r=>K (.v (.int k r))
   |_=>bif kEq k k' then match op with
    |.add=>K (.v (.int k (k.wrap (a+b))))
    |.sub=>K (.v (.int k (k.wrap (a-b))))
    |.mul=>K (.v (.int k (k.wrap (a*b))))
    |.quo=>cA (if b=0 then none else some (k.wrap (a.tdiv b))) fun r=>K (.v (.int k r))
    |.rem=>cA (if b=0 then none else some (a.tmod b)) fun r=>K (.v (.int k r))
    |.and=>K (.v (.int k (k.wrap (BitVec.ofInt k.bits a&&&BitVec.ofInt k.bits b).toNat)))
    |.or=>K (.v (.int k (k.wrap (BitVec.ofInt k.bits a|||BitVec.ofInt k.bits b).toNat)))
    |.xor=>K (.v (.int k (k.wrap (BitVec.ofInt k.bits a^^^BitVec.ofInt k.bits b).toNat)))
    |.andNot=>K (.v (.int k (k.wrap (BitVec.ofInt k.bits a&&& ~~~ BitVec.ofInt k.bits b).toNat)))
    |.eql=>K (.v (.bool (a==b)))
    |.neq=>K (.v (.bool (a !=b)))
    |.lss=>K (.v (.bool (decide (a<b))))
    |.leq=>K (.v (.bool (decide (a<=b))))
    |.gtr=>K (.v (.bool (decide (a>b))))
    |.geq=>K (.v (.bool (decide (a>=b))))
    |_=>none
   else none
  |.string a,.string b=>
   match op with
   |.add=>cA (if a.size+b.size<=2^62 then some (a++b)else none) fun r=>K (.v (.string r))
   |.eql=>K (.v (.bool (a.toList==b.toList)))
   |.neq=>K (.v (.bool !(a.toList==b.toList)))
   |.lss=>K (.v (.bool (Op.bytesLess a.toList b.toList)))
   |.leq=>K (.v (.bool (Op.bytesLess a.toList b.toList||a.toList==b.toList)))
   |.gtr=>K (.v (.bool !(Op.bytesLess a.toList b.toList||a.toList==b.toList)))
   |.geq=>K (.v (.bool !(Op.bytesLess a.toList b.toList)))
   |_=>none
  |_,_=>none
 |_,_=>none
def Xi:aA CK->aA PV->aA PV->(Bool->aB R)->aB R
 |[],[],[],K=>K true
 |k::ks,a::as,b::bs,K=>Xi ks as bs fun r=>match k,a,b with
  |.i,.v (.int j x),.v (.int j' y)=>bif kEq j j' then K ((x==y)&&r)else none
  |.b,.v (.bool x),.v (.bool y)=>K ((x==y)&&r)
  |.s,.v (.string x),.v (.string y)=>K ((x==y)&&r)
  |_,_,_=>none
 |_,_,_,_=>none
def tD (rows:aA (aA PV)) (i:Int):aB (aA PV):=if 0<=i then rows[i.toNat]? else none
def rJ (n:Nat) (i:Int):aB Nat:=if 0<=i/\i<n then some i.toNat else none
def lQ (rows:aA (aA PV)) (l h:Int):aB (aA (aA PV)):=
 if 0<=l/\l<=h/\h<=rows.length then some ((rows.drop l.toNat).take (h.toNat-l.toNat))else none
def oA (s:ByteArray) (i:Int):aB Int:=if 0<=i then(s.data.toList[i.toNat]?).map fun b=>(b.toNat:Int)else none
def xF (rows:aA (aA PV)) (i o:Nat) (cs:aA PV):aB (aA (aA PV)):=
 match rows[i]? with
 |some row=>if o+cs.length<=row.length then some (rows.set i (Sim.setL row o cs))else none
 |none=>none
def xG (rows:aA (aA PV)) (i o:Nat):aB PV:=(rows[i]?).bind fun row=>row[o]?
def rK (rows:aA (aA PV)) (i o n:Nat):aB (aA PV):=(rows[i]?).bind fun row=>if o+n<=row.length then some ((row.drop o).take n)else none
def rL (cs:aA PV) (i:Int) (len esz:Nat):aB PV:=if 0<=i/\i<len then cs[i.toNat*esz]? else none
def oB (cs:aA PV) (i:Int) (len esz:Nat):aB (aA PV):=if 0<=i/\i<len/\(i.toNat+1)*esz<=cs.length then some ((cs.drop (i.toNat*esz)).take esz)else none
def byteRows (s:ByteArray):aA (aA PV):=s.data.toList.map fun b=>[.v (.int .u8 b.toNat)]
def appRows (g:Bool) (rows new:aA (aA PV)):aB (aA (aA PV)):=
 if rows.length+new.length<=maxRoom/\(g=true->new.length<=1)then some (rows++new)else none
def oW (rows:aA (aA PV)) (h:Int):aB (aA (aA PV)):=if 0<=h/\h<=rows.length then some (rows.take h.toNat)else none
def oC (l c:Int) (zero:aA PV):aB (aA (aA PV)):=if 0<=l/\l<=c/\c<=maxRoom then some (List.replicate l.toNat zero)else none
def oX:CK->PV->PV->aB Bool
 |.i,.v (.int k a),.v (.int k' b)=>if k=k' then some (a==b)else none
 |.b,.v (.bool a),.v (.bool b)=>some (a==b)
 |.s,.v (.string a),.v (.string b)=>some (a==b)
 |_,_,_=>none
def iZ:aA CK->aA PV->aA PV->aB Bool
 |[],[],[]=>some true
 |k::ks,a::as,b::bs=>match oX k a b with
  |some true=>iZ ks as bs
  |some false=>some false
  |none=>none
 |_,_,_=>none
def pY (agg:Bool) (ks:aA CK) (a b:PV):aB Bool:=
 if agg then match a,b with
  |.agg as,.agg bs=>if as.length=ks.length/\bs.length=ks.length then iZ ks as bs else none
  |_,_=>none
 else iZ ks [a] [b]
def rM (agg:Bool) (ks:aA CK) (k:PV):aA (PV×PV)->Nat->aB (aB (Nat×PV))
 |[],_=>some none
 |(k',x)::r,i=>match pY agg ks k k' with
  |some true=>some (some (i,x))
  |some false=>rM agg ks k r (i+1)
  |none=>none
def tE (agg:Bool) (ks:aA CK):PV->Bool
 |.agg as=>agg&&as.length==ks.length
 |.v _=> !agg
 |_=>false
def pZ (agg:Bool) (ks:aA CK) (zero k:PV) (es:aA (PV×PV)):aB PV:=
 if tE agg ks k then(rM agg ks k es 0).map fun r=>match r with|some (_,x)=>x|none=>zero else none
def rN (agg:Bool) (ks:aA CK) (zero k:PV) (es:aA (PV×PV)):aB (PV×Bool):=
 if tE agg ks k then(rM agg ks k es 0).map fun r=>match r with|some (_,x)=>(x,true)|none=>(zero,false)else none
def xH (agg:Bool) (ks:aA CK) (k x:PV) (es:aA (PV×PV)):aB (aA (PV×PV)):=
 if tE agg ks k then(rM agg ks k es 0).map fun r=>match r with|some (i,_)=>es.set i (k,x)|none=>es++[(k,x)]else none
def dA:Nat->PV->Bool
 |0,_=>false
 |d+1,x=>match x with
  |.v _|.is _ _|.ip _|.im _=>true
  |.fn _ a b=>a.all (dA d)&&b.all (dA d)
  |.agg cs=>cs.all (dA d)
  |.tup cs=>cs.all (dA d)
  |_=>false
def eT:PV->Bool
 |.v _|.is _ _|.ip _=>true
 |_=>false
def Is:PV->Bool
 |.agg cs=>cs.all eT
 |x=>eT x
def qA:Nat->PV->Bool
 |0,_=>false
 |d+1,x=>match x with
  |.v _=>true
  |.agg cs=>cs.all (qA d)
  |.tup cs=>cs.all (qA d)
  |_=>false
def pE (f:PV->(PV->aB R)->aB R):aA PV->(aA PV->aB R)->aB R
 |[],K=>K []
 |x::xs,K=>f x fun x=>pE f xs fun xs=>K (x::xs)
def Cd (h:aT):Nat->PV->(PV->aB R)->aB R
 |0,_,_=>none
 |d+1,x,K=>match x with
  |.own k=>hK h k fun ob=>match ob with
   |.lst _ e _ rows=>K (.is e rows)
   |.lz _ e dp rows=>bif Nat.ble dp 4 then K (.is e rows)else none
   |_=>none
  |.zs dp e rows=>bif Nat.ble dp 5 then K (.is e rows)else none
  |.map k=>hK h k fun ob=>match ob with
   |.mp es=>K (.im es)
   |_=>none
  |.ref k o=>hK h k fun ob=>match ob with
   |.box cs=>gE o cs fun cs=>pE (Cd h d) cs fun cs=>K (.ip cs)
   |_=>none
  |.fn f a b=>pE (Cd h d) a fun a=>pE (Cd h d) b fun b=>K (.fn f a b)
  |.agg cs=>pE (Cd h d) cs fun cs=>K (.agg cs)
  |.v x=>K (.v x)
  |.is e rows=>K (.is e rows)
  |.ip cs=>K (.ip cs)
  |.im es=>K (.im es)
  |_=>none
def dG (k:Nat):Nat->PV->(PV->aB R)->aB R
 |0,_,K=>K .undef
 |d+1,x,K=>match x with
  |.own j=>bif Nat.beq j k then K .undef else K (.own j)
  |.el j i o=>bif Nat.beq j k then K .undef else K (.el j i o)
  |.ref j o=>bif Nat.beq j k then K .undef else K (.ref j o)
  |.map j=>bif Nat.beq j k then K .undef else K (.map j)
  |.yld j=>bif Nat.beq j k then K .undef else K (.yld j)
  |.fn f a b=>kills d a fun a=>kills d b fun b=>K (.fn f a b)
  |.agg cs=>kills d cs fun cs=>K (.agg cs)
  |.tup cs=>kills d cs fun cs=>K (.tup cs)
  |x=>K x
 where
 kills (d:Nat):aA PV->(aA PV->aB R)->aB R
 |[],K=>K []
 |x::xs,K=>dG k d x fun x=>kills d xs fun xs=>K (x::xs)
def nC (k:Nat):dZ->(dZ->aB R)->aB R
 |[],K=>K []
 |(j,v)::r,K=>dG k 3 v fun v=>nC k r fun r=>K ((j,v)::r)
def jA (k:Nat):aT->(aT->aB R)->aB R
 |[],K=>K []
 |(j,o)::r,K=>match o with
  |.box cs=>dG.kills k 2 cs fun cs=>jA k r fun r=>K ((j,.box cs)::r)
  |.lst ty e g rows=>jA k r fun r=>K ((j,.lst ty e g rows)::r)
  |.mp es=>jA k r fun r=>K ((j,.mp es)::r)
  |.lz ty e dp rows=>jA k r fun r=>K ((j,.lz ty e dp rows)::r)
  |.fl fs=>dG.kills k 2 fs fun fs=>jA k r fun r=>K ((j,.fl fs)::r)
  |.loop N e ps a b busy fin=>nC k e fun e=>jA k r fun r=>K ((j,.loop N e ps a b busy fin)::r)
def Re (h:aT) (e:Nat) (x:PV) (K:aA (aA PV)->aB R):aB R:=
 match x with
 |.is e' rows=>bif Nat.beq e' e then K rows else none
 |.own k=>hK h k fun ob=>match ob with
  |.lst _ e' _ rows=>bif Nat.beq e' e then K rows else none
  |_=>none
 |.v (.slice none 0 0)=>K []
 |_=>none
def vI (lo hi:Bool) (len:Nat) (a:aA PV) (K:Int->Int->aB R):aB R:=
 match lo,hi,a with
 |false,false,[]=>K 0 len
 |true,false,[.v (.int _ l)]=>K l len
 |false,true,[.v (.int _ h)]=>K 0 h
 |true,true,[.v (.int _ l),.v (.int _ h)]=>K l h
 |_,_,_=>none
def Fg:aA PV->aA (Nat×Nat)->aA PV->(aA PV->aB R)->aB R
 |cells,[],[],K=>K cells
 |cells,(off,n)::ps,x::xs,K=>lI x fun cs=>bif Nat.beq cs.length n then pX cells off cs fun cells=>Fg cells ps xs K else none
 |_,_,_,_=>none
def rO (e:Nat):aA PV->(aA (aA PV)->aB R)->aB R
 |[],K=>K []
 |x::xs,K=>lI x fun cs=>bif Nat.beq cs.length e&&cs.all eT then rO e xs fun r=>K (cs::r)else none
def Rf:PV->aB (Nat×PV)
 |.zs d e rows=>some (d,.is e rows)
 |x=>bif eT x then some (0,x)else none
def xI:aA PV->aB (Nat×aA PV)
 |[]=>some (0,[])
 |x::xs=>match Rf x,xI xs with
  |some (d,y),some (d',ys)=>some (bif Nat.blt d d' then d' else d,y::ys)
  |_,_=>none
def fD (d:Nat) (K:Nat->aB R):aB R:=match d with
 |0=>K 0
 |1=>K 1
 |2=>K 2
 |3=>K 3
 |4=>K 4
 |d=>K d
def xJ (e:Nat):aA PV->(Nat->aA (aA PV)->aB R)->aB R
 |[],K=>K 0 []
 |x::xs,K=>lI x fun cs=>match xI cs with
  |some (d,ys)=>bif Nat.beq ys.length e then xJ e xs fun a r=>fD (bif Nat.blt d a then a else d) fun m=>K m (ys::r)else none
  |none=>none
def Rg:PV->Bool
 |.agg cs=>cs.all eT
 |x=>eT x
def Nl:Nat->aA Nat->Bool
 |_,[]=>true
 |i,j::js=>bif Nat.beq i j then Nl (i+1) js else false
def Xj (i:Int) (K:Nat->aB R):aB R:=
 match i with
 |.ofNat i=>K i
 |_=>none
def Fh (i:Int):Nat->(Nat->aB R)->aB R
 |0,_=>none
 |m+1,K=>Hh (i==(m:Int)) (K m) (Fh i m K)
def dF (k:dV) (xs:aA PV) (h:aT) (n:Nat) (K:PV->aT->Nat->aB R):aB R:=
 match k,xs with
 |.mov,[x]=>K x h n
 |.nilc,[x]=>match x with
  |.ref .. |.ip .. |.el .. |.fn .. |.yld .. =>K x h n
  |_=>none
 |.box _ size,[x]=>lI x fun cs=>bif Nat.beq cs.length size then(bif Nat.beq size 0 then none else K (.ref n 0) ((n,.box cs)::h) (n+1))else none
 |.alloc _ zero,[]=>rI (zero.map .v) fun cs=>K (.ref n 0) ((n,.box cs)::h) (n+1)
 |.build zero parts,xs=>rI (zero.map .v) fun cs=>Fg cs parts xs fun cs=>K (.agg cs) h n
 |.buildSl ty e len zero parts,xs=>bif Nl 0 parts&&(Nat.beq zero.length e&& !(fU ty))then(bif Nat.beq parts.length len then bif xs.all Rg then rO e xs fun rows=>bif Nat.beq rows.length len then K (.own n) ((n,.lst ty e false rows)::h) (n+1)else none else xJ e xs fun dp rows=>bif Nat.beq rows.length len then K (.own n) ((n,.lz ty e dp rows)::h) (n+1)else none else none)else none
 |.loadS,[p]=>match p with
  |.ref k o=>hK h k fun ob=>match ob with
   |.box cs=>gE o cs fun cs=>match cs with
    |c::_=>K c h n
    |[]=>none
   |_=>none
  |.ip cs=>match cs with
   |c::_=>K c h n
   |[]=>none
  |.el k i o=>hK h k fun ob=>match ob with
   |.lst _ _ _ rows=>cA (xG rows i o) fun c=>K c h n
   |.fl fs=>bif Nat.beq o 0 then(gE i fs fun fs=>match fs with
    |f::_=>K f h n
    |[]=>none)else none
   |_=>none
  |_=>none
 |.loadA m,[p]=>match p with
  |.ref k o=>hK h k fun ob=>match ob with
   |.box cs=>gE o cs fun cs=>nZ m cs fun cs=>K (.agg cs) h n
   |_=>none
  |.ip cs=>nZ m cs fun cs=>K (.agg cs) h n
  |.el k i o=>hK h k fun ob=>match ob with
   |.lst _ _ _ rows=>cA (rK rows i o m) fun cs=>K (.agg cs) h n
   |_=>none
  |_=>none
 |.store m,[p,x]=>match p with
  |.ref k o=>hK h k fun ob=>match ob with
   |.box cs=>lI x fun ys=>bif Nat.beq ys.length m then pX cs o ys fun cs=>gF h k (.box cs) fun h=>K .undef h n else none
   |_=>none
  |.el k i o=>hK h k fun ob=>match ob with
   |.lst ty e g rows=>lI x fun ys=>bif Nat.beq ys.length m&&ys.all eT then cA (xF rows i o ys) fun rows=>gF h k (.lst ty e g rows) fun h=>K .undef h n else none
   |_=>none
  |_=>none
 |.fad off,[p]=>match p with
  |.ref k o=>K (.ref k (o+off)) h n
  |.ip cs=>gE off cs fun cs=>K (.ip cs) h n
  |.el k i o=>K (.el k i (o+off)) h n
  |_=>none
 |.iad e,[x,i]=>match i with
  |.v (.int _ i)=>match x with
   |.is e' rows=>bif Nat.beq e' e then cA (tD rows i) fun row=>K (.ip row) h n else none
   |.own k=>hK h k fun ob=>match ob with
    |.lst _ e' _ rows=>bif Nat.beq e' e then cA (rJ rows.length i) fun i=>K (.el k i 0) h n else none
    |.fl fs=>bif Nat.beq e 1 then Xj i (fun i=>bif Nat.blt i fs.length then K (.el k i 0) h n else none)else none
    |_=>none
   |_=>none
  |_=>none
 |.iadA len esz,[p,i]=>match i with
  |.v (.int _ i)=>match p with
   |.ref k o=>Fh i len fun j=>K (.ref k (o+j*esz)) h n
   |_=>none
  |_=>none
 |.idxStr,[x,i]=>match x,i with
  |.v (.string s),.v (.int _ i)=>cA (oA s i) fun b=>K (.v (.int .u8 b)) h n
  |_,_=>none
 |.idxA len e agg,[x,i]=>match x,i with
  |.agg cs,.v (.int _ i)=>bif agg then cA (oB cs i len e) fun cs=>K (.agg cs) h n else cA (rL cs i len e) fun c=>K c h n
  |_,_=>none
 |.bin op,[x,y]=>fU1 op x y fun v=>K v h n
 |.eqB neg,[x,y]=>match x,y with
  |.v (.bool a),.v (.bool b)=>K (.v (.bool ((a==b)!=neg))) h n
  |_,_=>none
 |.eqA neg ks,[x,y]=>match x,y with
  |.agg as,.agg bs=>Xi ks as bs fun r=>K (.v (.bool (r !=neg))) h n
  |_,_=>none
 |.un op,[x]=>match op,x with
  |.not,.v (.bool b)=>K (.v (.bool !b)) h n
  |.neg,.v (.int k m)=>K (.v (.int k (k.wrap (0-m)))) h n
  |.xor,.v (.int k m)=>K (.v (.int k (k.wrap (BitVec.ofInt k.bits (if k.signed then -1 else k.max)^^^BitVec.ofInt k.bits m).toNat))) h n
  |_,_=>none
 |.convI k,[x]=>match x with
  |.v (.int _ m)=>K (.v (.int k (k.wrap m))) h n
  |_=>none
 |.s2b _,[x]=>match x with
  |.v (.string s)=>K (.is 1 (byteRows s)) h n
  |_=>none
 |.mkfn f m,xs=>match f with
  |.func f=>nZ m xs fun a=>gE m xs fun b=>K (.fn f a b) h n
  |_=>none
 |.mkmap,[]=>K (.map n) ((n,.mp [])::h) (n+1)
 |.mksl ty e _ zero,[l,c]=>match l,c with
  |.v (.int _ l),.v (.int _ c)=>bif fU ty then none else rI (zero.map .v) fun z=>cA (oC l c z) fun rows=>K (.own n) ((n,.lst ty e true rows)::h) (n+1)
  |_,_=>none
 |.slc e lo hi mx,x::bs=>bif mx then none else match x with
  |.is e' rows=>bif Nat.beq e' e then vI lo hi rows.length bs fun l r=>cA (lQ rows l r) fun rows=>K (.is e rows) h n else none
  |_=>none
 |.lookup agg ks zero ok,[m,k]=>
  match zero with
  |.v z=>match m with
   |.im es=>bif dA 2 k then(bif ok then cA (rN agg ks (.v z) k es) fun r=>K (.tup [r.1,.v (.bool r.2)]) h n else cA (pZ agg ks (.v z) k es) fun r=>K r h n)else none
   |.zm es=>bif dA 2 k then(bif ok then cA (rN agg ks (.v z) k es) fun r=>K (.tup [r.1,.v (.bool r.2)]) h n else cA (pZ agg ks (.v z) k es) fun r=>K r h n)else none
   |.map j=>hK h j fun ob=>match ob with
    |.mp es=>bif dA 2 k then(bif ok then cA (rN agg ks (.v z) k es) fun r=>K (.tup [r.1,.v (.bool r.2)]) h n else cA (pZ agg ks (.v z) k es) fun r=>K r h n)else none
    |_=>none
   |_=>none
  |_=>none
 |.mapup agg ks,[m,k,x]=>match m with
  |.map j=>hK h j fun ob=>match ob with
   |.mp es=>bif Is k&&Is x then cA (xH agg ks k x es) fun es=>gF h j (.mp es) fun h=>K .undef h n else none
   |_=>none
  |_=>none
 |.len kd,[x]=>match x with
  |.is _ rows=>bif Nat.beq kd 0 then cA (some rows.length) fun m=>K (.v (.int .i64 m)) h n else none
  |.own k=>bif Nat.beq kd 0 then hK h k fun ob=>match ob with
   |.lst _ _ _ rows=>cA (some rows.length) fun m=>K (.v (.int .i64 m)) h n
   |.lz _ _ _ rows=>cA (some rows.length) fun m=>K (.v (.int .i64 m)) h n
   |.fl fs=>K (.v (.int .i64 fs.length)) h n
   |_=>none else none
  |.zs _ _ rows=>bif Nat.beq kd 0 then cA (some rows.length) fun m=>K (.v (.int .i64 m)) h n else none
  |.v (.slice none 0 0)=>bif Nat.beq kd 0 then K (.v (.int .i64 0)) h n else none
  |.v (.string s)=>bif Nat.beq kd 1 then K (.v (.int .i64 s.size)) h n else none
  |_=>none
 |.ext i,[x]=>match x with
  |.tup vs=>gE i vs fun vs=>match vs with
   |v::_=>K v h n
   |[]=>none
  |_=>none
 |_,_=>none
structure NX where
 is:FuncId->Bool
 nw:FuncId->Bool
 run:{R:Type}->FuncId->List PV->aT->Nat->(PV->aT->Nat->Option R)->Option R
 yld:{R:Type}->Nat->List PV->aT->Nat->(PV->aT->Nat->Option R)->Option R
abbrev sP:=FuncId->aA PV->aB PV
def vJ (h:aT):aA PV->(aA PV->aB R)->aB R
 |[],K=>K []
 |x::xs,K=>Cd h 5 x fun x=>vJ h xs fun xs=>K (x::xs)
def uQ (C:sP) (f:FuncId) (xs:aA PV) (h:aT) (K:PV->aB R):aB R:=
 bif xs.all (dA 4)then cA (C f xs) fun v=>fV v K
 else vJ h xs fun xs=>cA (C f xs) fun v=>fV v fun v=>bif qA 4 v then K v else none
def Ku (h:aT) (es dp:Nat) (x:PV) (K:aA (aA PV)->aB R):aB R:=
 match x with
 |.is e' rows=>bif Nat.beq e' es then K rows else none
 |.own k=>hK h k fun ob=>match ob with
  |.lst _ e' _ rows=>bif Nat.beq e' es then K rows else none
  |.lz _ e' dp' rows=>bif Nat.beq e' es&&Nat.ble dp' dp then K rows else none
  |_=>none
 |.zs d e' rows=>bif Nat.beq e' es&&Nat.ble d (dp+1)then K rows else none
 |.v (.slice none 0 0)=>K []
 |_=>none
def fV1 (e:dZ) (h:aT) (d ty es:Nat) (kill:aA Nat) (s x:PV) (K:dZ->aT->aB R):aB R:=
 match s with
 |.own k=>hK h k fun ob=>match ob with
  |.lst ty' es' g rows=>Re h es x fun new=>bif Nat.beq es' es&&(Nat.beq ty' ty&& !(fU ty'))then cA (appRows g rows new) fun rows=>
    gR e (d::kill) fun e=>nC k e fun e=>jA k h fun h=>gF h k (.lst ty' es' g rows) fun h=>K ((d,.own k)::e) h
   else none
  |.lz ty' es' dp rows=>Ku h es dp x fun new=>bif Nat.beq es' es&&(Nat.beq ty' ty&& !(fU ty'))then cA (appRows false rows new) fun rows=>
    gR e (d::kill) fun e=>nC k e fun e=>jA k h fun h=>gF h k (.lz ty' es' dp rows) fun h=>K ((d,.own k)::e) h
   else none
  |_=>none
 |_=>none
def oD (f:PV->aA Nat->(aA Nat->aB R)->aB R):aA PV->aA Nat->(aA Nat->aB R)->aB R
 |[],a,K=>K a
 |x::xs,a,K=>f x a fun a=>oD f xs a K
def Kv (f:PV->aA Nat->(aA Nat->aB R)->aB R):dZ->aA Nat->(aA Nat->aB R)->aB R
 |[],a,K=>K a
 |(_,x)::xs,a,K=>f x a fun a=>Kv f xs a K
def jG:Nat->PV->aA Nat->(aA Nat->aB R)->aB R
 |0,_,_,_=>none
 |d+1,x,a,K=>match x with
  |.ref k _=>K (k::a)
  |.own k=>K (k::a)
  |.el k _ _=>K (k::a)
  |.map k=>K (k::a)
  |.yld k=>K (k::a)
  |.fn _ p q=>oD (jG d) p a fun a=>oD (jG d) q a K
  |.agg cs=>oD (jG d) cs a K
  |.tup cs=>oD (jG d) cs a K
  |_=>K a
def kG (h:aT):Nat->aA Nat->aA Nat->(aA Nat->aB R)->aB R
 |0,_,_,_=>none
 |_+1,[],a,K=>K a
 |n+1,k::b,a,K=>bif zB k a then kG h n b a K else hK h k fun ob=>match ob with
  |.box cs=>oD (jG 4) cs b fun b=>kG h n b (k::a) K
  |.fl cs=>oD (jG 4) cs b fun b=>kG h n b (k::a) K
  |.loop _ e _ _ _ _ _=>Kv (jG 4) e b fun b=>kG h n b (k::a) K
  |_=>kG h n b (k::a) K
def Fi:aT->aA Nat->(aT->aT->aB R)->aB R
 |[],_,K=>K [] []
 |(k,o)::r,ns,K=>Fi r ns fun a b=>bif zB k ns then K ((k,o)::a) b else K a ((k,o)::b)
def iM:aT->Nat->Bool
 |[],_=>false
 |(j,_)::r,k=>bif Nat.beq j k then true else iM r k
def kX (p:Nat->Bool):Nat->PV->Bool
 |0,_=>false
 |d+1,x=>match x with
  |.ref k _|.own k|.el k _ _|.map k|.yld k=>p k
  |.fn _ a b=>a.all (kX p d)&&b.all (kX p d)
  |.agg cs=>cs.all (kX p d)
  |.tup cs=>cs.all (kX p d)
  |_=>true
def Ce (p:Nat->Bool):gD->Bool
 |.box cs=>cs.all (kX p 4)
 |.fl cs=>cs.all (kX p 4)
 |.loop _ e _ _ _ _ _=>e.all fun q=>kX p 4 q.2
 |_=>true
def jB (p:Nat->Bool):aT->Bool
 |[]=>true
 |(_,o)::r=>Ce p o&&jB p r
def mK:aT->dZ->aT->(dZ->aT->aB R)->aB R
 |[],e,h,K=>K e h
 |(k,o)::r,e,h,K=>match o with
  |.lst ty .. =>bif fU ty then mK r e h K else nC k e fun e=>jA k h fun h=>mK r e h K
  |.lz .. =>nC k e fun e=>jA k h fun h=>mK r e h K
  |_=>mK r e h K
def xK:aT->aT->(aT->aB R)->aB R
 |[],b,K=>K b
 |(k,o)::r,b,K=>xK r b fun r=>K ((k,o)::r)
def tF:aT->aA Nat
 |[]=>[]
 |(k,_)::r=>k::tF r
def Rh (hs:aT) (n:Nat):aT->Bool
 |[]=>true
 |(k,_)::r=>bif iM hs k||Nat.ble n k then Rh hs n r else false
def Ri (a:aT):aA Nat->Bool
 |[]=>true
 |k::r=>bif iM a k then Ri a r else false
def Rj (hs:aT):aT->Bool
 |[]=>true
 |(k,_)::r=>bif iM hs k then Rj hs r else false
def Wk:aT->Nat->Nat
 |[],m=>m
 |(k,_)::r,m=>bif Nat.blt k m then Wk r m else Wk r (k+1)
def Nm (hs:aT) (nw:Bool) (n:Nat) (v:PV) (h':aT) (n':Nat):aB (PV×aT×Nat):=
 oD (jG 5) [v] (tF hs) fun a=>kG h' 60 a [] fun b=>Fi h' b fun h2 _=>
  bif Ri h2 (tF hs)&&(bif nw then Rh hs n h2 else Rj hs h2)&&(kX (iM h2) 5 v&&jB (iM h2) h2)then some (v,h2,bif nw then n' else 0)else none
def inK (run:aT->Nat->(PV->aT->Nat->aB (PV×aT×Nat))->aB (PV×aT×Nat)) (nw:Bool) (xs:aA PV) (e:dZ) (h:aT) (n:Nat) (kill:aA Nat) (K:PV->dZ->aT->Nat->aB R):aB R:=
 oD (jG 5) xs [] fun a=>kG h 60 a [] fun c=>Fi h c fun hs b=>
  bif xs.all (kX (iM hs) 5)&&jB (iM hs) hs then
   cA (run hs (bif nw then n else Wk hs 0) (Nm hs nw (bif nw then n else Wk hs 0))) fun r=>
    fV r.1 fun v=>xK r.2.1 [] fun h2=>gR e kill fun e=>mK h2 e b fun e b=>xK h2 b fun h=>K v e h (bif nw then r.2.2 else n)
  else none
def It:aT->(aT->aB R)->aB R
 |[],K=>K []
 |(k,o)::r,K=>match o with
  |.lst ty e g rows=>bif fU ty then none else It r fun r=>K ((k,.lst (ty+4294967296) e g rows)::r)
  |.lz .. =>none
  |o=>It r fun r=>K ((k,o)::r)
def uR:aT->aT->(aT->aB R)->aB R
 |_,[],K=>K []
 |h,(k,o)::r,K=>hK h k fun a=>match a with
  |.lst .. =>match o with
   |.lst ty e g rows=>bif fU ty&& !(fU (ty-4294967296))then uR h r fun r=>K ((k,.lst (ty-4294967296) e g rows)::r)else none
   |_=>none
  |_=>match o with
   |.lst .. =>none
   |.lz .. =>none
   |o=>uR h r fun r=>K ((k,o)::r)
def fW1 (fx:Bool) (run:aT->Nat->(PV->aT->Nat->aB (PV×aT×Nat))->aB (PV×aT×Nat)) (nw:Bool) (xs:aA PV) (e:dZ) (h:aT) (n:Nat) (kill:aA Nat) (K:PV->dZ->aT->Nat->aB R):aB R:=
 bif fx then It h fun h1=>inK run nw xs e h1 n kill fun v e h2 n=>uR h h2 fun h3=>K v e h3 n
 else inK run nw xs e h n kill K
def Iu (e:dZ) (h:aT) (d es:Nat) (kill:aA Nat) (k:Nat) (hi:Int) (K:dZ->aT->aB R):aB R:=
 hK h k fun ob=>match ob with
 |.lst ty es' _ rows=>bif Nat.beq es' es&& !(fU ty)then cA (oW rows hi) fun rows=>
   gR e (d::kill) fun e=>nC k e fun e=>jA k h fun h=>gF h k (.lst ty es' true rows) fun h=>K ((d,.own k)::e) h
  else none
 |_=>none
def opK (C:sP) (X:NX) (k:dV) (as:aA PV) (h:aT) (n:Nat) (K:PV->aT->Nat->aB R):aB R:=
 match k,as with
 |.callF f,as=>bif X.is f then none else uQ C f as h fun v=>K v h n
 |.callV,.fn f first cap::as=>bif X.is f then none else uQ C f (first++as++cap) h fun v=>K v h n
 |k,as=>dF k as h n K
def Nn:aA (aB Nat)->aA PV->(aA PV->aB R)->aB R
 |[],[],K=>K []
 |o::os,x::xs,K=>Nn os xs fun xs=>match o with
  |none=>K (x::xs)
  |some e=>match x with
   |.v (.slice none 0 0)=>K (.is e []::xs)
   |_=>none
 |_,_,_=>none
def oE (ty e:Nat) (g:Bool):gD:=bif Nat.ble 4294967296 e then .lz ty (e%4294967296) (e/4294967296) []else .lst ty e g []
def Kw:Bool->gD->aB PV
 |false,.lst ty e _ rows=>bif fU ty then none else some (.zs 1 e rows)
 |false,.lz _ e dp rows=>some (.zs (dp+1) e rows)
 |true,.mp es=>some (.zm es)
 |_,_=>none
def Fj:aT->Nat->(aT->aB R)->aB R
 |[],_,K=>K []
 |(j,o)::r,k,K=>bif Nat.beq j k then Fj r k K else Fj r k fun r=>K ((j,o)::r)
def fzK (e:dZ) (h:aT) (d:Nat) (m:Bool) (k:Nat) (j:aB Nat) (K:dZ->aT->aB R):aB R:=
 hK h k fun ob=>match Kw m ob with
 |some x=>nC k e fun e=>jA k h fun h=>gF h k (.lst 0 0 true []) fun h=>match j with
  |none=>gR e [d] fun e=>K ((d,x)::e) h
  |some j=>nE e d fun v=>match v with
   |.agg cs=>pX cs j [x] fun cs=>gR e [d] fun e=>K ((d,.agg cs)::e) h
   |_=>none
 |none=>none
def xL:PV->aB (Bool×Nat)
 |.own k=>some (false,k)
 |.map k=>some (true,k)
 |_=>none
def Fk:dV->Bool
 |.store _|.mapup .. =>true
 |_=>false
def Xk:PV->Bool
 |.fn .. =>true
 |_=>false
def cC:gJ->aA Nat->aA Nat
 |.nil,a=>a
 |.op d _ _ _ r,a=>d::cC r a
 |.sto _ _ _ r,a=>cC r a
 |.ifx d _ _ b _ _ r,a=>d::cC b (cC r a)
 |.ifn d _ _ b _ _ r,a=>d::cC b (cC r a)
 |.mkfl d _ _ _ _ r,a=>d::cC r a
 |.lax _ _ r,a=>cC r a
 |.own _ _ _ _ r,a=>cC r a
 |.ownc _ _ _ _ _ r,a=>cC r a
 |.laxc _ _ _ r,a=>cC r a
 |.fz _ _ r,a=>cC r a
 |.laxm _ _ r,a=>cC r a
def cW (C:sP) (X:NX) (dr:Nat):gJ->dZ->aT->Nat->(dZ->aT->Nat->aB R)->aB R
 |.nil,e,h,n,K=>K e h n
 |.op d k xs kill cJ,e,h,n,K=>nY e xs fun as=>
  match k,as with
  |.append ty es _ _ false,[s,x]=>fV1 e h d ty es kill s x fun e h=>cW C X dr cJ e h n K
  |.slc es false true false,[.own k,.v (.int _ hi)]=>Iu e h d es kill k hi fun e h=>cW C X dr cJ e h n K
  |.callF f,as=>bif X.is f then fW1 (zB 4294967296 kill) (X.run f as) (X.nw f) as e h n (d::kill) fun v e h n=>cW C X dr cJ ((d,v)::e) h n K
   else uQ C f as h fun v=>gR e (d::kill) fun e=>cW C X dr cJ ((d,v)::e) h n K
  |.callV,.yld k::as=>bif Nat.beq dr 3 then none else inK (X.yld k as) false (.yld k::as) e h n (d::kill) fun v e h n=>cW C X dr cJ ((d,v)::e) h n K
  |.callV,.fn f first cap::as=>bif X.is f then bif Nat.beq dr 3 then none else inK (X.run f (first++as++cap)) (X.nw f) (first++as++cap) e h n (d::kill) fun v e h n=>cW C X dr cJ ((d,v)::e) h n K
   else uQ C f (first++as++cap) h fun v=>gR e (d::kill) fun e=>cW C X dr cJ ((d,v)::e) h n K
  |k,as=>opK C X k as h n fun v h n=>gR e (d::kill) fun e=>cW C X dr cJ ((d,v)::e) h n K
 |.sto k xs kill cJ,e,h,n,K=>nY e xs fun as=>dF k as h n fun _ h n=>gR e kill fun e=>cW C X dr cJ e h n K
 |.ifx d c w body x kill cJ,e,h,n,K=>nE e c fun a=>match a with
  |.v (.bool b)=>
   cA (bif w then Hh b (opsB C X body e h n x) (some false)else Hh b (some true) (opsB C X body e h n x))
    fun y=>gR e (d::cC body kill) fun e=>cW C X dr cJ ((d,.v (.bool y))::e) h n K
  |_=>none
 |.ifn d c w body x kill cJ,e,h,n,K=>nE e c fun a=>match a with
  |.v (.bool b)=>
   bif w then Hh b (cW C X dr body e h n fun e h n=>nY e [x] fun vs=>match vs with
     |[y]=>gR e (d::cC body kill) fun e=>cW C X dr cJ ((d,y)::e) h n K
     |_=>none) (gR e (d::cC body kill) fun e=>cW C X dr cJ ((d,.v (.bool false))::e) h n K)
   else Hh b (gR e (d::cC body kill) fun e=>cW C X dr cJ ((d,.v (.bool true))::e) h n K) (cW C X dr body e h n fun e h n=>nY e [x] fun vs=>match vs with
     |[y]=>gR e (d::cC body kill) fun e=>cW C X dr cJ ((d,y)::e) h n K
     |_=>none)
  |_=>none
 |.mkfl d ty zero xs kill cJ,e,h,n,K=>nY e xs fun as=>bif Nat.beq zero.length 1&&as.all Xk then gR e (d::kill) fun e=>cW C X dr cJ ((d,.own n)::e) ((n,.fl as)::h) (n+1) K else none
 |.lax d es cJ,e,h,n,K=>nE e d fun v=>match v,es with
  |.v (.slice none 0 0),[some s]=>gR e [d] fun e=>cW C X dr cJ ((d,.is s [])::e) h n K
  |.agg cs,es=>Nn es cs fun cs=>gR e [d] fun e=>cW C X dr cJ ((d,.agg cs)::e) h n K
  |_,_=>none
 |.own d ty s g cJ,e,h,n,K=>nE e d fun v=>match v with
  |.v (.slice none 0 0)=>gR e [d] fun e=>cW C X dr cJ ((d,.own n)::e) ((n,oE ty s g)::h) (n+1) K
  |_=>none
 |.fz d j cJ,e,h,n,K=>nE e d fun v=>match j with
  |none=>match xL v with
   |some (m,k)=>fzK e h d m k none fun e h=>cW C X dr cJ e h n K
   |none=>none
  |some j=>match v with
   |.agg cs=>gE j cs fun cs'=>match cs' with
    |c::_=>match xL c with
     |some (m,k)=>fzK e h d m k (some j) fun e h=>cW C X dr cJ e h n K
     |none=>none
    |[]=>none
   |_=>none
 |.laxm d j cJ,e,h,n,K=>nE e d fun v=>match j,v with
  |none,.v (.map none)=>gR e [d] fun e=>cW C X dr cJ ((d,.zm [])::e) h n K
  |some j,.ref k _=>hK h k fun ob=>match ob with
   |.box cs=>gE j cs fun cs'=>match cs' with
    |.v (.map none)::_=>pX cs j [.zm []] fun cs=>gF h k (.box cs) fun h=>cW C X dr cJ e h n K
    |_=>none
   |_=>none
  |_,_=>none
 |.laxc d j s cJ,e,h,n,K=>nE e d fun v=>match v with
  |.ref k _=>hK h k fun ob=>match ob with
   |.box cs=>gE j cs fun cs'=>match cs' with
    |.v (.slice none 0 0)::_=>pX cs j [.is s []] fun cs=>gF h k (.box cs) fun h=>cW C X dr cJ e h n K
    |_=>none
   |_=>none
  |_=>none
 |.ownc d j ty s g cJ,e,h,n,K=>nE e d fun v=>match v with
  |.ref k _=>hK h k fun ob=>match ob with
   |.box cs=>gE j cs fun cs'=>match cs' with
    |.v (.slice none 0 0)::_=>pX cs j [.own n] fun cs=>gF h k (.box cs) fun h=>cW C X dr cJ e ((n,oE ty s g)::h) (n+1) K
    |_=>none
   |_=>none
  |_=>none
 where
 opsB (C:sP) (X:NX):gJ->dZ->aT->Nat->PX->aB Bool
 |.nil,e,_,_,x=>nY e [x] fun vs=>match vs with
  |[.v (.bool b)]=>some b
  |_=>none
 |.op d k xs kill cJ,e,h,n,x=>nY e xs fun as=>
  bif Fk k then none else opK C X k as h n fun v h n=>gR e (d::kill) fun e=>opsB C X cJ ((d,v)::e) h n x
 |.ifx d c w body x' kill cJ,e,h,n,x=>nE e c fun a=>match a with
  |.v (.bool b)=>
   cA (bif w then Hh b (opsB C X body e h n x') (some false)else Hh b (some true) (opsB C X body e h n x'))
    fun y=>gR e (d::cC body kill) fun e=>opsB C X cJ ((d,.v (.bool y))::e) h n x
  |_=>none
 |_,_,_,_,_=>none
def nD (n:Nat):Nat->PV->Bool
 |0,_=>false
 |d+1,x=>match x with
  |.ref k _|.own k|.el k _ _|.map k|.yld k=>Nat.blt k n
  |.fn _ a b=>a.all (nD n d)&&b.all (nD n d)
  |.agg cs=>cs.all (nD n d)
  |.tup cs=>cs.all (nD n d)
  |_=>true
def Kx:dZ->Nat->(PV->aB R)->aB R->aB R
 |[],_,_,D=>D
 |(j,v)::r,i,K,D=>bif Nat.beq j i then K v else Kx r i K D
def Fl:dZ->aA Nat->Nat->(dZ->aB R)->aB R
 |_,[],_,K=>K []
 |e,i::is,n,K=>Kx e i (fun v=>bif nD n 4 v then Fl e is n fun r=>K ((i,v)::r)else none) (Fl e is n K)
def rP (n:Nat):gD->Bool
 |.box cs=>cs.all (nD n 4)
 |.fl cs=>cs.all (nD n 4)
 |.loop _ e _ _ _ _ _=>e.all fun q=>nD n 4 q.2
 |_=>true
def Ky:aT->aT->Nat->(aT->aB R)->aB R
 |[],_,_,K=>K []
 |(k,_)::r,h,n,K=>hK h k fun o=>bif rP n o then Ky r h n fun r=>K ((k,o)::r)else none
def aU {S E:Type} (body:S->aB (S⊕E)):Nat->S->aB E
 |0,_=>none
 |n+1,s=>(body s).bind fun r=>match r with
  |.inl s=>aU body n s
  |.inr e=>some e
def bC:Nat:=18446744073709551616
structure Fm where
 e:dZ
 h:aT
def xM (body:dZ->aT->(Ex->dZ->aT->aB R)->aB R) (a:dZ->aT->(Fm->aB R)->aB R):Nat->Fm->(Ex->Fm->aB R)->aB R
 |0,_,_=>none
 |m+1,s,K=>body s.e s.h fun x e h=>a e h fun s=>match x with
  |.normal=>xM body a m s K
  |.exit i=>K (.exit i) s
  |.ret=>K .ret s
def Kz:dZ->aA Nat->(dZ->aB R)->aB R
 |_,[],K=>K []
 |e,i::is,K=>nE e i fun v=>Kz e is fun r=>K ((i,v)::r)
def kH (keep:aA Nat) (h0:aT) (n0:Nat) (e:dZ) (h:aT) (K:Fm->aB R):aB R:=
 Fl e keep n0 fun e=>Ky h0 h n0 fun h=>K ⟨e,h⟩
def lk (x:Ex) (a b:aA Nat):aA Nat:=match x with
 |.normal=>a
 |_=>b
abbrev eJ (X:NX) (f:FuncId) (xs:aA PV) (hs:aT) (m:Nat) (nw:Bool):aB (PV×aT×Nat):=X.run f xs hs m (Nm hs nw m)
abbrev tG (X:NX) (k:Nat) (xs:aA PV) (hs:aT) (m:Nat):aB (PV×aT×Nat):=X.yld k xs hs m (Nm hs false m)
def dR:dZ->Nat->aB PV
 |[],_=>none
 |(j,v)::r,i=>if j=i then some v else dR r i
def aM:aT->Nat->aB gD
 |[],_=>none
 |(j,v)::r,i=>if j=i then some v else aM r i
def rQ:PV->aB Nat
 |.ref k _|.own k|.el k _ _|.map k=>some k
 |_=>none
def Rk:PV->Bool
 |.ip _|.v _|.is _ _|.im _=>true
 |_=>false
def Iv (h:aT) (x y:PV):Bool:=Rk x||Rk y||match rQ x,rQ y with
 |some k,some k'=> !Nat.beq k k'&&(aM h k).isSome&&(aM h k').isSome
 |_,_=>false
def exB (e:dZ) (h:aT) (ex:aA (Nat×Nat×Nat×Nat)):Bool:=ex.all fun p=>match dR e p.2.2.1,dR e p.2.2.2 with
 |some x,some y=>Iv h x y
 |_,_=>false
def eN (C:sP) (X:NX) {R:Type}:PC->dZ->aT->Nat->(Ex->dZ->aT->Nat->aB R)->aB R
 |.skip,e,h,n,K=>K .normal e h n
 |.reg ops,e,h,n,K=>cW C X 0 ops e h n (K .normal)
 |.regD dr ops _,e,h,n,K=>cW C X dr ops e h n (K .normal)
 |.dead _,_,_,_,_=>none
 |.regX dr ops _ ex,e,h,n,K=>cW C X dr ops e h n fun e h n=>bif exB e h ex then K .normal e h n else none
 |.seq a b,e,h,n,K=>eN C X a e h n (fun x e h n=>match x with|.normal=>eN C X b e h n K|.exit i=>K (.exit i) e h n|.ret=>K .ret e h n)
 |.cond c a b,e,h,n,K=>nY e [c] fun vs=>match vs with
  |[.v (.bool t)]=>Hh t (eN C X a e h n K) (eN C X b e h n K)
  |_=>none
 |.condJ keep c a b,e,h,n,K=>nY e [c] fun vs=>match vs with
  |[.v (.bool t)]=>cA (Hh t (eN C X a e h n fun x e' h' _=>kH keep h n e' h' fun s=>some (x,s)) (eN C X b e h n fun x e' h' _=>kH keep h n e' h' fun s=>some (x,s)))
    fun r=>K r.1 r.2.e r.2.h n
  |_=>none
 |.block id c,e,h,n,K=>eN C X c e h n (fun x e h n=>match x with|.exit i=>bif Nat.beq i id then K .normal e h n else K (.exit i) e h n|.normal=>K .normal e h n|.ret=>K .ret e h n)
 |.loop keep kx c,e,h,n,K=>kH keep h n e h fun s0=>
   cA (aU (fun s:Fm=>eN C X c s.e s.h n fun x e' h' _=>kH (lk x keep kx) h n e' h' fun s'=>some (match x with|.normal=>.inl s'|x=>.inr (x,s'))) bC s0)
    fun r=>K r.1 r.2.e r.2.h n
 |.condL c a b,e,h,n,K=>nY e [c] fun vs=>match vs with
  |[.v (.bool t)]=>match t with
   |true=>eN C X a e h n K
   |false=>eN C X b e h n K
  |_=>none
 |.loopU m keep c,e,h,n,K=>kH keep h n e h fun s0=>
   xM (fun e h K=>eN C X c e h n fun x e h _=>K x e h) (fun e' h' K=>kH keep h n e' h' K) m s0 fun x s=>K x s.e s.h n
 |.rangeF N keep f ps a b,e,h,n,K=>nY e [f] fun vs=>match vs with
  |[.fn g first cap]=>bif X.is g then Kz e keep fun d=>
    inK (X.run g (first++[.yld n]++cap)) false (first++[.yld n]++cap) e ((n,.loop N d ps a b false none)::h) (n+1) [] fun _ e h m=>
     hK h n fun ob=>match ob with
     |.loop _ _ _ _ _ false fin=>Fj h n fun h=>match fin with
      |none=>K .normal e h m
      |some (.exit i)=>K (.exit i) e h m
      |some .ret=>K .ret e h m
      |some .normal=>none
     |_=>none
   else none
  |_=>none
 |.exit id,e,h,n,K=>K (.exit id) e h n
 |.ret,e,h,n,K=>K .ret e h n
end
end Go.P
namespace Go.P
open Go.Sim (AV AO Hp fA upd St IC IX Ex dV CK)
def jZ1:PV->AV
 |.v x=>.v x
 |_=>.tup []
def eV:PV->AV
 |.v x=>.v x
 |.is _ []=>.v (.slice none 0 0)
 |.fn f [] []=>.fn (.func f) [] []
 |.agg cs=>.agg (cs.map jZ1)
 |_=>.tup []
def isV:PV->Bool
 |.v _=>true
 |_=>false
def okC:PV->Bool
 |.v _=>true
 |.is _ []=>true
 |.fn _ [] []=>true
 |.agg cs=>cs.all isV
 |_=>false
def eX:PX->IX
 |.t i=>.t i
 |.c x=>.c (eV x)
def oY (g:aB (Nat×Bool)):gJ->aA Sim.Op1
 |.nil=>[]
 |.op d k xs _ r=>⟨some d,k,xs.map eX,g⟩::oY g r
 |.sto k xs _ r=>⟨none,k,xs.map eX,g⟩::oY g r
 |.ifx d c w b x _ r=>oY (some (c,w)) b++⟨some d,.pick,if w then[.t c,eX x,.c (.v (.bool false))]else[.t c,.c (.v (.bool true)),eX x],g⟩::oY g r
 |.ifn d c w b x _ r=>oY (some (c,w)) b++⟨some d,.pick,if w then[.t c,eX x,.c (.v (.bool false))]else[.t c,.c (.v (.bool true)),eX x],g⟩::oY g r
 |.mkfl d ty zero xs _ r=>⟨some d,.buildSl ty 1 xs.length zero (List.range xs.length),xs.map eX,g⟩::oY g r
 |.lax _ _ r=>oY g r
 |.own _ _ _ _ r=>oY g r
 |.ownc _ _ _ _ _ r=>oY g r
 |.laxc _ _ _ r=>oY g r
 |.fz _ _ r=>oY g r
 |.laxm _ _ r=>oY g r
def uS:gJ->Bool
 |.nil=>true
 |.lax _ _ r=>uS r
 |.own _ _ _ _ r=>uS r
 |.ownc _ _ _ _ _ r=>uS r
 |.laxc _ _ _ r=>uS r
 |.fz _ _ r=>uS r
 |.laxm _ _ r=>uS r
 |_=>false
def kA1:gJ->Bool
 |.nil=>true
 |_=>false
def iN:PC->IC
 |.skip=>.skip
 |.reg ops=>.reg (oY none ops)
 |.regD _ ops before=>.regD (oY none ops) before
 |.dead c=>c
 |.regX _ ops before _=>.regD (oY none ops) before
 |.seq a b=>match a with
  |.reg ops=>if uS ops&& !kA1 ops then iN b else .seq (.reg (oY none ops)) (iN b)
  |a=>.seq (iN a) (iN b)
 |.cond c a b=>.cond (eX c) (iN a) (iN b)
 |.condJ _ c a b=>.cond (eX c) (iN a) (iN b)
 |.condL c a b=>.cond (eX c) (iN a) (iN b)
 |.block id c=>.block id (iN c)
 |.loop _ _ c=>.loop (iN c)
 |.loopU _ _ c=>.loop (iN c)
 |.rangeF _ _ f ps a b=>.rangeF (eX f) ps (iN a) (iN b)
 |.exit id=>.exit id
 |.ret=>.ret
end Go.P
namespace Go.P
open Go.Sim (AV AO Hp fA upd St IC IX Ex dV CK Wf)
inductive RC:Bool->PV->AV->Prop
 |v {p:Bool} (x:Value):RC p (.v x) (.v x)
 |is {p:Bool} {e:Nat} {rows:List (List PV)} {rows':List (List AV)} (hl:rows.length=rows'.length)
   (hr:∀(i:Nat) (r:List PV) (r':List AV),rows[i]? =some r->rows'[i]? =some r'->r.length=r'.length)
   (hc:∀(i:Nat) (r:List PV) (r':List AV) (j:Nat) (x:PV) (y:AV),rows[i]? =some r->rows'[i]? =some r'->r[j]? =some x->r'[j]? =some y->RC true x y):RC p (.is e rows) (.is e rows')
 |isn {p:Bool} {e:Nat}:RC p (.is e []) (.v (.slice none 0 0))
 |ip {p:Bool} {cs:List PV} {cs':List AV} (hl:cs.length=cs'.length) (hc:∀(j:Nat) (x:PV) (y:AV),cs[j]? =some x->cs'[j]? =some y->RC false x y):RC p (.ip cs) (.ip cs')
 |im {es:List (PV×PV)} {es':List (AV×AV)} (hl:es.length=es'.length)
   (hk:∀(j:Nat) (x:PV×PV) (y:AV×AV),es[j]? =some x->es'[j]? =some y->RC false x.1 y.1)
   (hv:∀(j:Nat) (x:PV×PV) (y:AV×AV),es[j]? =some x->es'[j]? =some y->RC false x.2 y.2):RC false (.im es) (.im es')
 |fn {f:FuncId} {a b:List PV} {a' b':List AV} (h1:a.length=a'.length) (h2:b.length=b'.length)
   (v1:∀(j:Nat) (x:PV) (y:AV),a[j]? =some x->a'[j]? =some y->RC false x y) (v2:∀(j:Nat) (x:PV) (y:AV),b[j]? =some x->b'[j]? =some y->RC false x y):RC false (.fn f a b) (.fn (.func f) a' b')
 |agg {cs:List PV} {cs':List AV} (hl:cs.length=cs'.length) (hc:∀(j:Nat) (x:PV) (y:AV),cs[j]? =some x->cs'[j]? =some y->RC false x y):RC false (.agg cs) (.agg cs')
 |tup {cs:List PV} {cs':List AV} (hl:cs.length=cs'.length) (hc:∀(j:Nat) (x:PV) (y:AV),cs[j]? =some x->cs'[j]? =some y->RC false x y):RC false (.tup cs) (.tup cs')
theorem RC.weak {p:Bool} {x:PV} {y:AV} (h:RC p x y):RC false x y:=by
 cases h with
 |v x=>exact .v x
 |is hl hr hc=>exact .is hl hr hc
 |isn=>exact .isn
 |ip hl hc=>exact .ip hl hc
 |im a b c=>exact .im a b c
 |fn a b c d=>exact .fn a b c d
 |agg a b=>exact .agg a b
 |tup a b=>exact .tup a b
theorem RC.plain {x:PV} {y:AV} (h:RC false x y) (hp:eT x=true):RC true x y:=by
 cases h with
 |v x=>exact .v x
 |is hl hr hc=>exact .is hl hr hc
 |isn=>exact .isn
 |ip hl hc=>exact .ip hl hc
 |_=>simp[eT]at hp
def LR (R:PV->AV->Prop) (xs:aA PV) (ys:aA AV):Prop:=xs.length=ys.length/\∀(j:Nat) (x:PV) (y:AV),xs[j]? =some x->ys[j]? =some y->R x y
section
variable {R:PV->AV->Prop}
theorem LR.nil:LR R [] []:=⟨rfl,fun j x y h=>by simp at h⟩
theorem LR.cons {x:PV} {y:AV} {xs:aA PV} {ys:aA AV} (h:R x y) (d:LR R xs ys):LR R (x::xs) (y::ys):=
 ⟨by simp[d.1],fun j a b c hb=>by
  cases j with
  |zero=>simp at c hb;subst c hb;exact h
  |succ j=>simp at c hb;exact d.2 j a b c hb⟩
theorem LR.head {x:PV} {y:AV} {xs:aA PV} {ys:aA AV} (h:LR R (x::xs) (y::ys)):R x y:=h.2 0 x y rfl rfl
theorem LR.tail {x:PV} {y:AV} {xs:aA PV} {ys:aA AV} (h:LR R (x::xs) (y::ys)):LR R xs ys:=
 ⟨by simpa using h.1,fun j a b c hb=>h.2 (j+1) a b (by simpa using c) (by simpa using hb)⟩
theorem LR.inv_nil {ys:aA AV} (h:LR R [] ys):ys=[]:=by
 have:=h.1;cases ys with
 |nil=>rfl
 |cons a as=>simp at this
theorem LR.inv_cons {x:PV} {xs:aA PV} {ys:aA AV} (h:LR R (x::xs) ys):∃y b,ys=y::b/\R x y/\LR R xs b:=by
 cases ys with
 |nil=>have:=h.1;simp at this
 |cons a as=>exact⟨a,as,rfl,h.head,h.tail⟩
theorem LR.append {xs xs':aA PV} {ys b:aA AV} (h:LR R xs ys) (h':LR R xs' b):LR R (xs++xs') (ys++b):=by
 induction xs generalizing ys with
 |nil=>rw[h.inv_nil];exact h'
 |cons a as ih=>
  obtain⟨y,c,rfl,h1,h2⟩:=h.inv_cons;exact .cons h1 (ih h2)
theorem LR.take {xs:aA PV} {ys:aA AV} (h:LR R xs ys) (n:Nat):LR R (xs.take n) (ys.take n):=
 ⟨by simp[h.1],fun j x y a hy=>by
  rw[jP2]at a hy
  split at a
  rename_i b
  rw[iJ2 b]at hy
  exact h.2 j x y a hy
  cases a⟩
theorem LR.drop {xs:aA PV} {ys:aA AV} (h:LR R xs ys) (n:Nat):LR R (xs.drop n) (ys.drop n):=
 ⟨by simp[h.1],fun j x y a hy=>by
  rw[jW2]at a hy
  exact h.2 _ x y a hy⟩
theorem LR.get {xs:aA PV} {ys:aA AV} (h:LR R xs ys) {j:Nat} {x:PV} (b:xs[j]? =some x):∃y,ys[j]? =some y/\R x y:=by
 have a:j<ys.length:=by rw[<-h.1];exact(iG2.1 b).1
 exact⟨ys[j],by simp[a],h.2 j x _ b (by simp[a])⟩
theorem LR.mono {R':PV->AV->Prop} {xs:aA PV} {ys:aA AV} (h:LR R xs ys) (c:∀x y,R x y->R' x y):LR R' xs ys:=⟨h.1,fun j x y a b=>c x y (h.2 j x y a b)⟩
theorem LR.set {xs:aA PV} {ys:aA AV} (h:LR R xs ys) {x:PV} {y:AV} (d:R x y) (n:Nat):LR R (xs.set n x) (ys.set n y):=
 ⟨by simp[h.1],fun j a b c hb=>by
  rw[jD2]at c hb
  split at c
  rename_i e;subst e
  rw[iJ2 rfl]at hb
  split at c
  split at hb
  cases c;cases hb;exact d
  cases hb
  cases c
  rename_i e
  rw[iL2 e]at hb
  exact h.2 j a b c hb⟩
theorem LR.setL {xs xs':aA PV} {ys b:aA AV} (h:LR R xs ys) (h':LR R xs' b) (o:Nat):LR R (Sim.setL xs o xs') (Sim.setL ys o b):=by
 induction xs' generalizing xs ys b o with
 |nil=>rw[h'.inv_nil];exact h
 |cons a as ih=>
  obtain⟨y,c,rfl,h1,h2⟩:=h'.inv_cons;exact ih (h.set h1 o) h2 (o+1)
end
def RR (rows:aA (aA PV)) (rows':aA (aA AV)):Prop:=
 rows.length=rows'.length/\∀(i:Nat) (r:aA PV) (r':aA AV),rows[i]? =some r->rows'[i]? =some r'->LR (RC true) r r'
theorem RR.is {p:Bool} {e:Nat} {rows:aA (aA PV)} {rows':aA (aA AV)} (h:RR rows rows'):RC p (.is e rows) (.is e rows'):=
 .is h.1 (fun i r r' a b=>(h.2 i r r' a b).1) (fun i r r' j x y a b c d=>(h.2 i r r' a b).2 j x y c d)
theorem RR.of_is {rows:aA (aA PV)} {rows':aA (aA AV)} (hl:rows.length=rows'.length)
   (hr:∀(i:Nat) (r:aA PV) (r':aA AV),rows[i]? =some r->rows'[i]? =some r'->r.length=r'.length)
   (hc:∀(i:Nat) (r:aA PV) (r':aA AV) (j:Nat) (x:PV) (y:AV),rows[i]? =some r->rows'[i]? =some r'->r[j]? =some x->r'[j]? =some y->RC true x y):RR rows rows':=
 ⟨hl,fun i r r' a b=>⟨hr i r r' a b,fun j x y c d=>hc i r r' j x y a b c d⟩⟩
theorem RR.nil:RR [] []:=⟨rfl,fun i r r' h=>by simp at h⟩
theorem RR.cons {r:aA PV} {r':aA AV} {rows:aA (aA PV)} {rows':aA (aA AV)} (h:LR (RC true) r r') (d:RR rows rows'):RR (r::rows) (r'::rows'):=
 ⟨by simp[d.1],fun j a b c hb=>by
  cases j with
  |zero=>simp at c hb;subst c hb;exact h
  |succ j=>simp at c hb;exact d.2 j a b c hb⟩
theorem RR.get {rows:aA (aA PV)} {rows':aA (aA AV)} (h:RR rows rows') {i:Nat} {r:aA PV} (hr:rows[i]? =some r):∃r',rows'[i]? =some r'/\LR (RC true) r r':=by
 have a:i<rows'.length:=by rw[<-h.1];exact(iG2.1 hr).1
 exact⟨rows'[i],by simp[a],h.2 i r _ hr (by simp[a])⟩
theorem RR.append {a b:aA (aA PV)} {a' b':aA (aA AV)} (h:RR a a') (k:RR b b'):RR (a++b) (a'++b'):=
 ⟨by simp[h.1,k.1],fun i r r' h1 h2=>by
  rw[jY2]at h1 h2
  rw[<-h.1]at h2
  split at h1
  rename_i hi;rw[iJ2 hi]at h2;exact h.2 i r r' h1 h2
  rename_i hi;rw[iL2 hi]at h2;exact k.2 _ r r' h1 h2⟩
theorem RR.take {a:aA (aA PV)} {a':aA (aA AV)} (h:RR a a') (n:Nat):RR (a.take n) (a'.take n):=
 ⟨by simp[h.1],fun j x y b hy=>by
  rw[jP2]at b hy
  split at b
  rename_i c;rw[iJ2 c]at hy;exact h.2 j x y b hy
  cases b⟩
theorem RR.drop {a:aA (aA PV)} {a':aA (aA AV)} (h:RR a a') (n:Nat):RR (a.drop n) (a'.drop n):=
 ⟨by simp[h.1],fun j x y b hy=>by
  rw[jW2]at b hy
  exact h.2 _ x y b hy⟩
theorem RR.set {a:aA (aA PV)} {a':aA (aA AV)} (h:RR a a') {x:aA PV} {y:aA AV} (c:LR (RC true) x y) (n:Nat):RR (a.set n x) (a'.set n y):=
 ⟨by simp[h.1],fun j p q b hb=>by
  rw[jD2]at b hb
  split at b
  rename_i e;subst e
  rw[iJ2 rfl]at hb
  split at b
  split at hb
  cases b;cases hb;exact c
  cases hb
  cases b
  rename_i e
  rw[iL2 e]at hb
  exact h.2 j p q b hb⟩
theorem RR.replicate {r:aA PV} {r':aA AV} (h:LR (RC true) r r') (n:Nat):RR (List.replicate n r) (List.replicate n r'):=
 ⟨by simp,fun i x y a hy=>by
  simp only[List.getElem?_replicate]at a hy
  split at a
  grind
  cases a⟩
def ER (es:aA (PV×PV)) (es':aA (AV×AV)):Prop:=
 es.length=es'.length/\∀(j:Nat) (x:PV×PV) (y:AV×AV),es[j]? =some x->es'[j]? =some y->RC false x.1 y.1/\RC false x.2 y.2
theorem ER.im {es:aA (PV×PV)} {es':aA (AV×AV)} (h:ER es es'):RC false (.im es) (.im es'):=.im h.1 (fun j x y a b=>(h.2 j x y a b).1) (fun j x y a b=>(h.2 j x y a b).2)
def RK (x:PV) (y:AV):Prop:=RC true x y\/∃cs cs',x=.agg cs/\y=.agg cs'/\LR (RC true) cs cs'
theorem RK.rc {x:PV} {y:AV} (h:RK x y):RC false x y:=by
 rcases h with h|⟨cs,cs',rfl,rfl,h⟩
 exact h.weak;exact .agg h.1 fun j x y a b=>(h.2 j x y a b).weak
def EM (es:aA (PV×PV)) (es':aA (AV×AV)):Prop:=
 es.length=es'.length/\∀(j:Nat) (x:PV×PV) (y:AV×AV),es[j]? =some x->es'[j]? =some y->RK x.1 y.1/\RK x.2 y.2
theorem EM.er {es:aA (PV×PV)} {es':aA (AV×AV)} (h:EM es es'):ER es es':=⟨h.1,fun j x y a b=>⟨(h.2 j x y a b).1.rc,(h.2 j x y a b).2.rc⟩⟩
inductive Pl where
 |nil
 |atp (id ver e len:Nat)
structure Cx where
 f:Nat->Option Pl
 z:Nat->Option AO
instance:CoeFun Cx fun _=>Nat->Option Pl:=⟨Cx.f⟩
def Cx.le (C C':Cx):Prop:=(∀k pl,C k=some pl->C' k=some pl)/\∀id o,C.z id=some o->C'.z id=some o
theorem Cx.le.refl (C:Cx):C.le C:=⟨fun _ _ h=>h,fun _ _ h=>h⟩
theorem Cx.le.trans {A B C:Cx} (h:A.le B) (k:B.le C):A.le C:=⟨fun a b c=>k.1 a b (h.1 a b c),fun a b c=>k.2 a b (h.2 a b c)⟩
def RZ (z:Nat->aB AO):Nat->PV->AV->Prop
 |0,x,y=>RC true x y
 |d+1,x,y=>RC true x y\/∃e rows id ver ty els,x=.is e rows/\y=.sl e id ver 0 rows.length none/\z id=some (.arr false ty e ver els)/\rows.length<=els.length/\
   ∀(i:Nat) (r:aA PV) (r':aA AV),rows[i]? =some r->els[i]? =some r'->LR (RZ z d) r r'
theorem RZ.of {z:Nat->aB AO} {d:Nat} {x:PV} {y:AV} (h:RC true x y):RZ z d x y:=by
 cases d with
 |zero=>exact h
 |succ d=>exact .inl h
theorem RZ.up1 {z:Nat->aB AO}:∀{d:Nat} {x:PV} {y:AV},RZ z d x y->RZ z (d+1) x y
 |0,_,_,h=>.inl h
 |d+1,x,y,h=>by
  rcases h with h|⟨e,rows,id,ver,ty,els,h1,h2,h3,h4,h5⟩
  exact .inl h
  exact .inr ⟨e,rows,id,ver,ty,els,h1,h2,h3,h4,fun i r r' a b=>(h5 i r r' a b).mono fun x y h=>RZ.up1 h⟩
theorem RZ.up {z:Nat->aB AO} {d a:Nat} (hd:d<=a) {x:PV} {y:AV} (h:RZ z d x y):RZ z a x y:=by
 induction hd with
 |refl=>exact h
 |step _ ih=>exact ih.up1
theorem RZ.mono {z f:Nat->aB AO} (c:∀id o,z id=some o->f id=some o):∀{d:Nat} {x:PV} {y:AV},RZ z d x y->RZ f d x y
 |0,_,_,h=>h
 |d+1,x,y,h=>by
  rcases h with h|⟨e,rows,id,ver,ty,els,h1,h2,h3,h4,h5⟩
  exact .inl h
  exact .inr ⟨e,rows,id,ver,ty,els,h1,h2,c _ _ h3,h4,fun i r r' a b=>(h5 i r r' a b).mono fun x y h=>RZ.mono c h⟩
def Ac (z:Nat->aB AO) (d:Nat) (rows:aA (aA PV)) (rows':aA (aA AV)):Prop:=
 rows.length=rows'.length/\∀(i:Nat) (r:aA PV) (r':aA AV),rows[i]? =some r->rows'[i]? =some r'->LR (RZ z d) r r'
theorem RR.z {z:Nat->aB AO} {d:Nat} {rows:aA (aA PV)} {rows':aA (aA AV)} (h:RR rows rows'):Ac z d rows rows':=⟨h.1,fun i r r' a b=>(h.2 i r r' a b).mono fun _ _ h=>RZ.of h⟩
theorem Ac.mono {z c:Nat->aB AO} (e:∀id o,z id=some o->c id=some o) {d:Nat} {rows:aA (aA PV)} {rows':aA (aA AV)} (h:Ac z d rows rows'):Ac c d rows rows':=⟨h.1,fun i r r' a b=>(h.2 i r r' a b).mono fun _ _ h=>RZ.mono e h⟩
theorem Ac.up {z:Nat->aB AO} {d c:Nat} (hd:d<=c) {rows:aA (aA PV)} {rows':aA (aA AV)} (h:Ac z d rows rows'):Ac z c rows rows':=⟨h.1,fun i r r' a b=>(h.2 i r r' a b).mono fun _ _ h=>RZ.up hd h⟩
theorem Ac.nil {z:Nat->aB AO} {d:Nat}:Ac z d [] []:=⟨rfl,fun i r r' h=>by simp at h⟩
theorem Ac.append {z:Nat->aB AO} {d:Nat} {a b:aA (aA PV)} {a' b':aA (aA AV)} (h:Ac z d a a') (k:Ac z d b b'):Ac z d (a++b) (a'++b'):=
 ⟨by simp[h.1,k.1],fun i r r' h1 h2=>by
  rw[jY2]at h1 h2
  rw[<-h.1]at h2
  split at h1
  rename_i hi;rw[iJ2 hi]at h2;exact h.2 i r r' h1 h2
  rename_i hi;rw[iL2 hi]at h2;exact k.2 _ r r' h1 h2⟩
inductive RV (C:Cx):PV->AV->Prop
 |cl {x:PV} {y:AV} (h:RC false x y):RV C x y
 |undef {y:AV}:RV C .undef y
 |ref {k o id ver e len:Nat} (h:C k=some (.atp id ver e len)):RV C (.ref k o) (.ptr id ver 0 o)
 |own {k id ver e len:Nat} (h:C k=some (.atp id ver e len)):RV C (.own k) (.sl e id ver 0 len none)
 |ownn {k:Nat} {y:AV} (h:C k=some .nil) (hy:y=.v (.slice none 0 0)):RV C (.own k) y
 |el {k i o id ver e len:Nat} (h:C k=some (.atp id ver e len)):RV C (.el k i o) (.ptr id ver i o)
 |map {k id ver e len:Nat} (h:C k=some (.atp id ver e len)):RV C (.map k) (.map id)
 |fn {f:FuncId} {a b:List PV} {a' b':List AV} (h1:a.length=a'.length) (h2:b.length=b'.length)
   (v1:∀(j:Nat) (x:PV) (y:AV),a[j]? =some x->a'[j]? =some y->RV C x y) (v2:∀(j:Nat) (x:PV) (y:AV),b[j]? =some x->b'[j]? =some y->RV C x y):RV C (.fn f a b) (.fn (.func f) a' b')
 |yld {k id ver e len:Nat} (h:C k=some (.atp id ver e len)):RV C (.yld k) (.fn (.yield id) [] [])
 |agg {cs:List PV} {cs':List AV} (hl:cs.length=cs'.length) (hc:∀(j:Nat) (x:PV) (y:AV),cs[j]? =some x->cs'[j]? =some y->RV C x y):RV C (.agg cs) (.agg cs')
 |tup {cs:List PV} {cs':List AV} (hl:cs.length=cs'.length) (hc:∀(j:Nat) (x:PV) (y:AV),cs[j]? =some x->cs'[j]? =some y->RV C x y):RV C (.tup cs) (.tup cs')
 |zs {d e:Nat} {rows:List (List PV)} {y:AV} (h:RZ C.z d (.is e rows) y):RV C (.zs d e rows) y
 |zm {es:List (PV×PV)} {id:Nat} {es':List (AV×AV)} (h:C.z id=some (.map es')) (he:EM es es'):RV C (.zm es) (.map id)
 |zm0:RV C (.zm []) (.v (.map none))
theorem RV.mono {C C':Cx} (a:C.le C') {x:PV} {y:AV} (h:RV C x y):RV C' x y:=by
 induction h with
 |cl h=>exact .cl h
 |undef=>exact .undef
 |ref h=>exact .ref (a.1 _ _ h)
 |own h=>exact .own (a.1 _ _ h)
 |ownn h hy=>exact .ownn (a.1 _ _ h) hy
 |el h=>exact .el (a.1 _ _ h)
 |map h=>exact .map (a.1 _ _ h)
 |yld h=>exact .yld (a.1 _ _ h)
 |fn h1 h2 v1 v2 i1 i2=>exact .fn h1 h2 i1 i2
 |agg hl hc ih=>exact .agg hl ih
 |tup hl hc ih=>exact .tup hl ih
 |zs h=>exact .zs (RZ.mono a.2 h)
 |zm h he=>exact .zm (a.2 _ _ h) he
 |zm0=>exact .zm0
def cX (C:Cx) (e:dZ) (t:aA AV):Prop:=∀i v,dR e i=some v->∃y,t[i]? =some y/\RV C v y
def StR:Bool->aB Ex->LoopState->aB IC->Prop
 |false,none,st,pend=>st=.ready/\pend=none
 |true,none,st,pend=>st=.busy
 |false,some (.exit i),st,pend=>st=.done/\pend=some (.exit i)
 |false,some .ret,st,pend=>st=.done/\pend=some .ret
 |_,_,_,_=>False
def iO (C:Cx) (L:Nat->aB AO) (lim nS:Nat):gD->Pl->Prop
 |.box cells,.atp id ver _ _=>lim<=id/\id<nS/\∃ty esz row,L id=some (.arr true ty esz ver [row])/\LR (RV C) cells row
 |.lst _ e _ rows,.nil=>rows=[]
 |.lst ty e g rows,.atp id ver e' len=>lim<=id/\id<nS/\e'=e/\len=rows.length/\∃els,L id=some (.arr false (Ab ty) e ver els)/\RR rows (els.take rows.length)/\rows.length<=els.length/\(g=false->els.length=rows.length)
 |.lz _ _ _ rows,.nil=>rows=[]
 |.lz ty e dp rows,.atp id ver e' len=>lim<=id/\id<nS/\e'=e/\len=rows.length/\fU ty=false/\∃els,L id=some (.arr false ty e ver els)/\Ac C.z dp rows els
 |.mp es,.atp id _ _ _=>lim<=id/\id<nS/\∃es',L id=some (.map es')/\EM es es'
 |.fl fs,.atp id ver e len=>lim<=id/\id<nS/\e=1/\len=fs.length/\∃ty els,L id=some (.arr false ty 1 ver els)/\els.length=fs.length/\∀(i:Nat) (f:PV) (row:aA AV),fs[i]? =some f->els[i]? =some row->LR (RV C) [f] row
 |.loop N e ps a b busy fin,.atp id _ _ _=>lim<=id/\id<nS/\∃st pend tmps,L id=some (.loop st pend tmps ps (iN a) (iN b))/\tmps.length=N/\cX C e tmps/\StR busy fin st pend
 |_,_=>False
def nbO:AO->Bool
 |.arr bx _ _ _ _=> !bx
 |.map _=>true
 |_=>false
structure HR (C:Cx) (h:aT) (L:Nat->Option AO) (lim nS:Nat):Prop where
 ob:∀k po,aM h k=some po->∃pl,C k=some pl/\iO C L lim nS po pl
 inj:∀k k' id v e l v' e' l',aM h k≠none->aM h k'≠none->C k=some (.atp id v e l)->C k'=some (.atp id v' e' l')->k=k'
 zr:∀id o,C.z id=some o->L id=some o/\id<nS/\(∀k v e l,aM h k≠none->C k≠some (.atp id v e l))/\nbO o=true
def Own (C:Cx) (h:aT) (id:Nat):Prop:=∃k v e l,aM h k≠none/\C k=some (.atp id v e l)
def dT:aA fA->aA fA->Prop
 |[],[]=>True
 |.mark::a,.mark::b=>dT a b
 |.ob i _::a,.ob j _::b=>i=j/\dT a b
 |_,_=>False
def Sk (h h':aA fA) (n:Nat):Prop:=∃pre r,h'=pre++r/\dT r h/\∀e∈pre,∃i o,e=.ob i o/\n<=i
theorem dT.refl:∀h,dT h h
 |[]=>trivial
 |.mark::a=>dT.refl a
 |.ob _ _::a=>⟨rfl,dT.refl a⟩
theorem dT.trans:∀{a b c:aA fA},dT a b->dT b c->dT a c
 |[],[],[],_,_=>trivial
 |.mark::a,.mark::b,.mark::c,h,k=>dT.trans (a:=a) h k
 |.ob _ _::a,.ob _ _::b,.ob _ _::c,h,k=>⟨h.1.trans k.1,dT.trans h.2 k.2⟩
theorem dT.upd:∀(h:aA fA) (id:Nat) (o:AO),dT (upd h id o) h
 |[],_,_=>trivial
 |.mark::a,id,o=>dT.upd a id o
 |.ob i o'::a,id,o=>by
  simp only[Sim.upd]
  split
  exact⟨rfl,.refl a⟩
  exact⟨rfl,dT.upd a id o⟩
theorem dT.split:∀{x pre r:aA fA},dT x (pre++r)->∃p q,x=p++q/\dT p pre/\dT q r
 |x,[],r,h=>⟨[],x,rfl,trivial,h⟩
 |.mark::x,.mark::pre,r,h=>by
  obtain⟨p,q,rfl,h1,h2⟩:=dT.split (x:=x) (pre:=pre) (r:=r) h
  exact⟨.mark::p,q,rfl,h1,h2⟩
 |.ob i o::x,.ob j o'::pre,r,h=>by
  obtain⟨p,q,rfl,h1,h2⟩:=dT.split (x:=x) (pre:=pre) (r:=r) h.2
  exact⟨.ob i o::p,q,rfl,⟨h.1,h1⟩,h2⟩
 |[],.mark::_,_,h=>h.elim
 |[],.ob _ _::_,_,h=>h.elim
 |.mark::_,.ob _ _::_,_,h=>h.elim
 |.ob _ _::_,.mark::_,_,h=>h.elim
theorem dT.obs {n:Nat}:∀{p pre:aA fA},dT p pre->(∀e∈pre,∃i o,e=.ob i o/\n<=i)->∀e∈p,∃i o,e=.ob i o/\n<=i
 |[],[],_,_,e,he=>by simp at he
 |.mark::p,.mark::pre,h,hp,e,he=>by simp_all
 |.ob i o::p,.ob j o'::pre,h,hp,e,he=>by
  rcases iY2.1 he with rfl|he
  obtain⟨b,a,k,hk⟩:=hp (.ob j o') (by simp)
  cases k
  exact⟨i,o,rfl,by rw[h.1];exact hk⟩
  exact dT.obs h.2 (fun e he=>hp e (by simp[he])) e he
theorem Sk.refl (h:aA fA) (n:Nat):Sk h h n:=⟨[],h,rfl,.refl h,fun e he=>by simp at he⟩
theorem Sk.trans {a b c:aA fA} {n m:Nat} (h:Sk a b n) (k:Sk b c m) (g:n<=m):Sk a c n:=by
 obtain⟨p,r,rfl,h1,h2⟩:=h;obtain⟨q,r',rfl,f,i⟩:=k;obtain⟨x,y,rfl,d,e2⟩:=f.split;refine⟨q++x,y,by simp,e2.trans h1,fun e he=>?_⟩;rcases kJ2.1 he with he|he
 grind
 exact d.obs h2 e he
theorem Sk.upd (h:aA fA) (id:Nat) (o:AO) (n:Nat):Sk h (upd h id o) n:=⟨[],_,rfl,.upd h id o,fun e he=>by simp at he⟩
theorem Sk.new (h:aA fA) (o:AO) (n:Nat):Sk h (.ob n o::h) n:=⟨[.ob n o],h,rfl,.refl h,fun e he=>by simp at he;exact⟨n,o,he,iH2 _⟩⟩
theorem xN {n:Nat}:∀{pre r:aA fA} {id:Nat},(∀e∈pre,∃i o,e=.ob i o/\n<=i)->id<n->Sim.look (pre++r) id=Sim.look r id
 |[],r,id,_,_=>rfl
 |e::pre,r,id,h,hid=>by
  obtain⟨i,o,rfl,hi⟩:=h e (by simp)
  simp only[lG2,Sim.look]
  rw[iL2 (by omega)]
  exact xN (fun e he=>h e (by simp[he])) hid
theorem La {n:Nat}:∀{pre r:aA fA},(∀e∈pre,∃i o,e=.ob i o/\n<=i)->∃a,Sim.popMark (pre++.mark::r)=a++r/\∀e∈a,∃i o,e=.ob i o/\n<=i
 |[],r,_=>⟨[],rfl,fun e he=>by simp at he⟩
 |e::pre,r,h=>by
  obtain⟨i,o,rfl,hi⟩:=h e (by simp)
  obtain⟨a,h1,h2⟩:=La (r:=r) (fun e he=>h e (kI2 _ he))
  have keep:∃b,fA.ob i o::Sim.popMark (pre++.mark::r)=b++r/\∀e∈b,∃i o,e=.ob i o/\n<=i:=
   ⟨.ob i o::a,by rw[h1];rfl,fun e he=>by
    rcases iY2.1 he with rfl|he
    exact⟨i,o,rfl,hi⟩
    exact h2 e he⟩
  simp only[lG2,Sim.popMark]
  split
  exact⟨a,h1,h2⟩
  exact keep
theorem Sk.pop {h h':aA fA} {n:Nat} (hs:Sk (.mark::h) h' n):Sk h (Sim.popMark h') n/\∀id,id<n->Sim.look (Sim.popMark h') id=Sim.look h' id:=by
 obtain⟨pre,r,rfl,h1,h2⟩:=hs
 match r,h1 with
 |.mark::r,h1=>
  obtain⟨b,d,c⟩:=La (r:=r) h2;rw[d];refine⟨⟨b,r,rfl,h1,c⟩,fun id a=>?_⟩;rw[xN c a,xN h2 a];rfl
end Go.P
namespace Go.P
open Go.Sim (AV AO Hp fA upd St IC IX Ex dV CK Wf)
section
variable {R:Type}
theorem Ad (x:Value) (K:Value->aB R):Ir x K=K x:=by cases x<;>rfl
theorem Rl (x:PV) (K:PV->aB R):fPV x K=K x:=by
 cases x<;>simp[fPV,Ad]
theorem oZ:∀(xs:aA PV) (K:aA PV->aB R),rI xs K=K xs
 |[],K=>rfl
 |x::xs,K=>by simp[rI,Rl,oZ xs]
theorem dQ1:∀(xs:aA PV) (K:aA PV->aB R),fV.fT xs K=K xs
 |[],K=>rfl
 |x::xs,K=>by
  have ih:=fun K=>dQ1 xs (K:aA PV->aB R)
  cases x<;>simp[fV.fT,Rl,oZ,ih]
theorem Lb (x:PV) (K:PV->aB R):fV x K=K x:=by
 cases x<;>simp[fV,Ad,oZ,dQ1]
theorem bK {a b:Nat}:Nat.beq a b=decide (a=b):=by
 rw[Bool.eq_iff_iff];simp[Nat.beq_eq]
theorem fB:∀(e:dZ) (i:Nat) (K:PV->aB R),nE e i K=(dR e i).bind K
 |[],_,_=>rfl
 |(j,v)::r,i,K=>by
  simp only[nE,dR,bK]
  by_cases h:j=i<;>simp[h,fB r i K]
theorem gG:∀(i:Nat) (a:aA Nat),zB i a=a.contains i
 |_,[]=>rfl
 |i,j::a=>by
  simp only[zB,bK,List.contains_cons,gG i a]
  by_cases h:i=j<;>simp[h]
def edel:dZ->aA Nat->dZ
 |[],_=>[]
 |(j,v)::r,is=>if j∈is then edel r is else(j,v)::edel r is
theorem dS:∀(e:dZ) (is:aA Nat) (K:dZ->aB R),gR e is K=K (edel e is)
 |[],_,_=>rfl
 |(j,v)::r,is,K=>by
  simp only[gR,gG,edel]
  by_cases h:j∈is
  simp[h,dS r is K]
  simp[h,dS r is]
theorem tH:∀(e:dZ) (is:aA Nat) (i:Nat),dR (edel e is) i=if i∈is then none else dR e i
 |[],is,i=>by simp[edel,dR]
 |(j,v)::r,is,i=>by
  have ih:=tH r is i
  simp only[edel]
  by_cases h:j∈is
  rw[iJ2 h,ih]
  by_cases h2:j=i
  subst h2;simp[h]
  simp[dR,h2]
  rw[iL2 h]
  by_cases h2:j=i
  subst h2;simp[dR,h]
  simp only[dR,iL2 h2,ih]
def evs (e:dZ):aA PX->aB (aA PV)
 |[]=>some []
 |.t i::xs=>(dR e i).bind fun v=>(evs e xs).bind fun vs=>some (v::vs)
 |.c x::xs=>(evs e xs).bind fun vs=>some (x::vs)
theorem gT (e:dZ):∀(xs:aA PX) (K:aA PV->aB R),nY e xs K=(evs e xs).bind K
 |[],K=>rfl
 |.t i::xs,K=>by
  simp only[nY,fB,evs,lC2]
  congr 1
  funext v
  rw[gT e xs]
  simp[lC2]
 |.c x::xs,K=>by
  simp only[nY,evs,lC2]
  rw[gT e xs]
  simp[lC2]
theorem mL:∀(n:Nat) (l:aA PV) (K:aA PV->aB R) (r:R),nZ n l K=some r->n<=l.length/\K (l.take n)=some r
 |0,l,K,r,h=>⟨iV2 _,by simpa[nZ]using h⟩
 |n+1,[],K,r,h=>by simp[nZ]at h
 |n+1,a::as,K,r,h=>by
  simp only[nZ]at h
  obtain⟨h1,h2⟩:=mL n as _ r h
  exact⟨by simp;omega,by simpa using h2⟩
theorem dL:∀(n:Nat) (l:aA PV) (K:aA PV->aB R) (r:R),gE n l K=some r->n<=l.length/\K (l.drop n)=some r
 |0,l,K,r,h=>⟨iV2 _,by simpa[gE]using h⟩
 |n+1,[],K,r,h=>by simp[gE]at h
 |n+1,a::as,K,r,h=>by
  simp only[gE]at h
  obtain⟨h1,h2⟩:=dL n as _ r h
  exact⟨by simp;omega,by simpa using h2⟩
theorem lR {α:Type} (a:α):∀(cs as:aA α) (n:Nat),Sim.setL (a::as) (n+1) cs=a::Sim.setL as n cs
 |[],as,n=>rfl
 |c::cs,as,n=>by simp only[Sim.setL,List.set_cons_succ];exact lR a cs _ _
theorem iA:∀(l:aA PV) (o:Nat) (cs:aA PV) (K:aA PV->aB R) (r:R),pX l o cs K=some r->o+cs.length<=l.length/\K (Sim.setL l o cs)=some r
 |l,0,[],K,r,h=>⟨by simp,by simpa[pX,Sim.setL]using h⟩
 |[],0,c::cs,K,r,h=>by simp[pX]at h
 |[],n+1,cs,K,r,h=>by simp[pX]at h
 |a::as,0,c::cs,K,r,h=>by
  simp only[pX]at h
  obtain⟨h1,h2⟩:=iA as 0 cs _ r h
  refine⟨by simp;omega,?_⟩
  simp only[Sim.setL,List.set_cons_zero]
  rw[lR]
  exact h2
 |a::as,n+1,cs,K,r,h=>by
  simp only[pX]at h
  obtain⟨h1,h2⟩:=iA as n cs _ r h
  exact⟨by simp;omega,by rw[lR];exact h2⟩
theorem eK:∀(h:aT) (k:Nat) (K:gD->aB R),hK h k K=(aM h k).bind K
 |[],_,_=>rfl
 |(j,v)::r,i,K=>by
  simp only[hK,aM,bK]
  by_cases h:j=i<;>simp[h,eK r i K]
def eI:aT->Nat->gD->aT
 |[],_,_=>[]
 |(j,v)::r,i,o=>if j=i then(j,o)::r else(j,v)::eI r i o
theorem dN:∀(h:aT) (k:Nat) (o:gD) (K:aT->aB R) (r:R),gF h k o K=some r->K (eI h k o)=some r
 |[],_,_,_,_,h=>by simp[gF]at h
 |(j,v)::t,i,o,K,r,h=>by
  simp only[gF,bK]at h
  by_cases e:j=i
  simp only[e,kV2,iT2]at h
  simp only[eI,e,jJ2];exact h
  simp only[e,decide_false,jG2]at h
  simp only[eI,iL2 e]
  exact dN t i o _ r h
theorem fE:∀(h:aT) (k:Nat) (o:gD) (j:Nat),aM (eI h k o) j=if j=k/\(aM h k).isSome then some o else aM h j
 |[],k,o,j=>by simp[eI,aM]
 |(i,v)::r,k,o,j=>by
  have ih:=fE r k o j
  by_cases h1:i=k
  subst h1
  simp only[eI,jJ2,aM]
  by_cases h2:i=j
  subst h2;simp
  grind
  simp only[eI,iL2 h1,aM]
  by_cases h2:i=j
  subst h2;simp[h1]
  grind
def dU:PV->aB (aA PV)
 |.agg cs=>some cs
 |.tup _=>none
 |.undef=>none
 |x=>some [x]
theorem jU (x:PV) (K:aA PV->aB R):lI x K=(dU x).bind K:=by cases x<;>rfl
theorem oF {C:Cx} {x:PV} {y:AV} {cs:aA PV} (h:RV C x y) (hc:dU x=some cs):∃cs',y.cells=some cs'/\LR (RV C) cs cs':=by
 have one:∀{z:PV} {w:AV},RV C z w->(∀l,w≠.agg l)->(∀l,w≠.tup l)->cs=[z]->∃cs',w.cells=some cs'/\LR (RV C) cs cs':=by
  intro z w f h1 h2 e;subst e;refine⟨[w],?_,.cons f .nil⟩;cases w<;>simp_all[AV.cells]
 cases h with
 |cl h=>
  cases h with
  |agg hl hc'=>simp[dU]at hc;subst hc;exact⟨_,rfl,hl,fun j x y a b=>.cl (hc' j x y a b)⟩
  |tup hl hc'=>simp[dU]at hc
  |v x=>exact one (.cl (.v x)) (by intro l e;cases e) (by intro l e;cases e) (by simpa[dU]using hc.symm)
  |is a b c=>exact one (.cl (.is a b c)) (by intro l e;cases e) (by intro l e;cases e) (by simpa[dU]using hc.symm)
  |isn=>exact one (.cl .isn) (by intro l e;cases e) (by intro l e;cases e) (by simpa[dU]using hc.symm)
  |ip a b=>exact one (.cl (.ip a b)) (by intro l e;cases e) (by intro l e;cases e) (by simpa[dU]using hc.symm)
  |im a b c=>exact one (.cl (.im a b c)) (by intro l e;cases e) (by intro l e;cases e) (by simpa[dU]using hc.symm)
  |fn a b c d=>exact one (.cl (.fn a b c d)) (by intro l e;cases e) (by intro l e;cases e) (by simpa[dU]using hc.symm)
 |undef=>simp[dU]at hc
 |agg hl hc'=>simp[dU]at hc;subst hc;exact⟨_,rfl,hl,hc'⟩
 |tup hl hc'=>simp[dU]at hc
 |ref h=>exact one (.ref h) (by intro l e;cases e) (by intro l e;cases e) (by simpa[dU]using hc.symm)
 |own h=>exact one (.own h) (by intro l e;cases e) (by intro l e;cases e) (by simpa[dU]using hc.symm)
 |ownn h hy=>subst hy;exact one (.ownn h rfl) (by intro l e;cases e) (by intro l e;cases e) (by simpa[dU]using hc.symm)
 |el h=>exact one (.el h) (by intro l e;cases e) (by intro l e;cases e) (by simpa[dU]using hc.symm)
 |map h=>exact one (.map h) (by intro l e;cases e) (by intro l e;cases e) (by simpa[dU]using hc.symm)
 |yld h=>exact one (.yld h) (by intro l e;cases e) (by intro l e;cases e) (by simpa[dU]using hc.symm)
 |fn a b c d=>exact one (.fn a b c d) (by intro l e;cases e) (by intro l e;cases e) (by simpa[dU]using hc.symm)
 |@zs d e rows y h=>
  refine one (.zs h) ?_ ?_ (by simpa[dU]using hc.symm);intro l e;subst e;cases d with
  |zero=>cases h
  |succ d=>rcases h with h|⟨_,_,_,_,_,_,_,h,_⟩<;>cases h
  intro l e;subst e;cases d with
  |zero=>cases h
  |succ d=>rcases h with h|⟨_,_,_,_,_,_,_,h,_⟩<;>cases h
 |zm h he=>exact one (.zm h he) (by intro l e;cases e) (by intro l e;cases e) (by simpa[dU]using hc.symm)
 |zm0=>exact one .zm0 (by intro l e;cases e) (by intro l e;cases e) (by simpa[dU]using hc.symm)
theorem Lc (a b:IntKind):kEq a b=decide (a=b):=by cases a<;>cases b<;>rfl
theorem LR.zero {C:Cx} (zero:aA Value):LR (RV C) (zero.map .v) (Sim.zeroRow zero):=by
 unfold Sim.zeroRow
 induction zero with
 |nil=>exact .nil
 |cons a as ih=>exact .cons (.cl (.v a)) ih
theorem LR.zeroP (zero:aA Value):LR (RC true) (zero.map .v) (Sim.zeroRow zero):=by
 unfold Sim.zeroRow
 induction zero with
 |nil=>exact .nil
 |cons a as ih=>exact .cons (.v a) ih
theorem RV.plain {C:Cx} {x:PV} {y:AV} (h:RV C x y) (hp:eT x=true):RC true x y:=by
 cases h with
 |cl h=>exact h.plain hp
 |_=>simp[eT]at hp
theorem LR.plain {C:Cx} {xs:aA PV} {ys:aA AV} (h:LR (RV C) xs ys) (hp:xs.all eT=true):LR (RC true) xs ys:=
 ⟨h.1,fun j x y a b=>(h.2 j x y a b).plain (iM2.1 hp x (iN2 a))⟩
theorem rR (e:Nat):∀(xs:aA PV) (K:aA (aA PV)->aB R) (r:R),rO e xs K=some r->∃rows,K rows=some r/\rows.length=xs.length/\
  ∀(i:Nat) (x:PV),xs[i]? =some x->∃cs,dU x=some cs/\cs.length=e/\cs.all eT=true/\rows[i]? =some cs
 |[],K,r,h=>⟨[],h,rfl,fun i x b=>by simp at b⟩
 |x::xs,K,r,h=>by
  simp only[rO,jU,iC2]at h
  obtain⟨cs,a,h⟩:=h
  by_cases hc:(Nat.beq cs.length e&&cs.all eT)=true
  rw[hc,iT2]at h
  simp only[iD2,bK,iO2]at hc
  obtain⟨rows,h1,h2,h3⟩:=rR e xs _ r h
  refine⟨cs::rows,h1,by simp[h2],fun i y hy=>?_⟩
  cases i with
  |zero=>simp at hy;subst hy;exact⟨cs,a,hc.1,hc.2,rfl⟩
  |succ i=>simp at hy;obtain⟨c,d,f,g,j⟩:=h3 i y hy;exact⟨c,d,f,g,by simpa using j⟩
  grind
theorem Ae:∀(i:Nat) (a:aA Nat),Nl i a=true->a=List.range' i a.length
 |_,[],_=>rfl
 |i,j::a,h=>by
  simp only[Nl,bK]at h
  by_cases e:i=j
  simp only[e,kV2,iT2]at h
  subst e
  rw[jN2,List.range'_succ]
  congr 1
  exact Ae _ a h
  simp[e]at h
end
end Go.P
namespace Go.P
open Go.Sim (AV AO Hp fA upd St IC IX Ex dV CK Wf Out doOp)
structure cM (C:Cx) (n:Nat) (h:aT) (lim:Nat) (s:Hp):Prop where
 hr:HR C h (Sim.look s.h) lim s.n
 dom:∀k pl,C k=some pl->k<n
 wf:Wf s.h s.n
 lim:lim<=s.n
def eO:gD->Bool
 |.lst ty _ _ _=>fU ty
 |.lz .. =>false
 |_=>true
structure Fr (C:Cx) (h:aT) (s:Hp) (C':Cx) (h':aT) (s':Hp):Prop where
 sk:Sk s.h s'.h s.n
 n:s.n<=s'.n
 keep:∀id,id<s.n->¬Own C h id->Sim.look s'.h id=Sim.look s.h id
 own:∀id,id<s.n->Own C' h' id->Own C h id
 kd:∀k o,aM h k=some o->∃o',aM h' k=some o'/\(eO o'=true->eO o=true/\C' k=C k)
 zl:∀id o,C.z id=some o->C'.z id=some o
 zn:∀id,id<s.n->C'.z id≠none->C.z id≠none\/Own C h id
theorem Fr.refl (C:Cx) (h:aT) (s:Hp):Fr C h s C h s:=⟨.refl _ _,iH2 _,fun _ _ _=>rfl,fun _ _ h=>h,fun k o h=>⟨o,h,fun hb=>⟨hb,rfl⟩⟩,fun _ _ h=>h,fun _ _ h=>.inl h⟩
theorem Fr.trans {C C' C'':Cx} {h h' d:aT} {s s' e:Hp} (a:Fr C h s C' h' s') (b:Fr C' h' s' C'' d e):Fr C h s C'' d e:=
  ⟨a.sk.trans b.sk a.n,jF2 a.n b.n,fun id c i=>by
    rw[b.keep id (kH2 c a.n) (fun f=>i (a.own id c f)),a.keep id c i],
   fun id c f=>a.own id c (b.own id (kH2 c a.n) f),
   fun k o hk=>by
    obtain⟨o',h1,h2⟩:=a.kd k o hk
    obtain⟨g,h3,h4⟩:=b.kd k o' h1
    exact⟨g,h3,fun hb=>⟨(h2 (h4 hb).1).1,(h4 hb).2.trans (h2 (h4 hb).1).2⟩⟩,
   fun id o h=>b.zl id o (a.zl id o h),
   fun id c h=>by
    rcases b.zn id (kH2 c a.n) h with h1|h1
    exact a.zn id c h1
    exact .inr (a.own id c h1)⟩
def eE {R:Type} (C:Cx) (n:Nat) (h:aT) (lim:Nat) (s:Hp) (k:dV) (ys:aA AV) (K:PV->aT->Nat->aB R) (r:R):Prop:=
 ∃v h' n' C' out,K v h' n'=some r/\doOp (Sim.look s.h) lim s.n k ys=some out/\RV C' v out.v/\cM C' n' h' lim (out.apply s)/\
  C.le C'/\n<=n'/\Fr C h s C' h' (out.apply s)/\(Fk k=false->∀id,id<s.n->Sim.look (out.apply s).h id=Sim.look s.h id)
section
variable {R:Type} {C:Cx} {n:Nat} {h:aT} {lim:Nat} {s:Hp} {k:dV} {ys:List AV} {K:PV->aT->Nat->Option R} {r:R}
theorem bG (a:cM C n h lim s) {v:PV} {y:AV} (hd:doOp (Sim.look s.h) lim s.n k ys=some {v:=y}) (hv:RV C v y) (hK:K v h n=some r):eE C n h lim s k ys K r:=
 ⟨v,h,n,C,_,hK,hd,hv,a,.refl C,iH2 _,.refl _ _ _,fun _ _ _=>rfl⟩
theorem eD {h:aA fA} {n:Nat} {o:AO} {id:Nat}:Sim.look (.ob n o::h) id=if n=id then some o else Sim.look h id:=rfl
def ext (C:Cx) (n:Nat) (pl:Pl):Cx:=⟨fun k=>if k=n then some pl else C k,C.z⟩
theorem jH (a:cM C n h lim s) (pl:Pl):C.le (ext C n pl):=⟨fun k q hk=>by
 have:=a.dom k q hk
 simp only[ext]
 rw[iL2 (by omega)]
 exact hk,fun _ _ h=>h⟩
theorem iO.mono {C':Cx} {L L':Nat->aB AO} {nS j:Nat} {po:gD} {pl:Pl} (m:nS<=j) (k:C.le C') (h:∀id ver e len,pl=.atp id ver e len->L' id=L id) (c:iO C L lim nS po pl):iO C' L' lim j po pl:=by
 cases po with
 |box cells=>
  cases pl with
  |nil=>exact c
  |atp id ver e len=>
   obtain⟨h1,h2,ty,esz,row,h3,h4⟩:=c;exact⟨h1,by omega,ty,esz,row,by rw[h id ver e len rfl];exact h3,h4.mono (fun x y hv=>hv.mono k)⟩
 |lst ty e g rows=>
  cases pl with
  |nil=>exact c
  |atp id ver e' len=>
   obtain⟨h1,h2,h3,h4,els,h5,d⟩:=c;exact⟨h1,by omega,h3,h4,els,by rw[h id ver e' len rfl];exact h5,d⟩
 |lz ty e dp rows=>
  cases pl with
  |nil=>exact c
  |atp id ver e' len=>
   obtain⟨h1,h2,h3,h4,hf,els,h5,d⟩:=c;exact⟨h1,by omega,h3,h4,hf,els,by rw[h id ver e' len rfl];exact h5,d.mono k.2⟩
 |mp es=>
  cases pl with
  |nil=>exact c
  |atp id ver e len=>
   obtain⟨h1,h2,es',h3,h4⟩:=c;exact⟨h1,by omega,es',by rw[h id ver e len rfl];exact h3,h4⟩
 |fl fs=>
  cases pl with
  |nil=>exact c
  |atp id ver e len=>
   obtain⟨h1,h2,h3,h4,ty,els,h5,d,l⟩:=c;exact⟨h1,by omega,h3,h4,ty,els,by rw[h id ver e len rfl];exact h5,d,fun i f row a b=>(l i f row a b).mono (fun x y hv=>hv.mono k)⟩
 |loop N e ps a b busy fin=>
  cases pl with
  |nil=>exact c
  |atp id ver e' len=>
   obtain⟨h1,h2,st,pend,tmps,h3,h4,h5,d⟩:=c;exact⟨h1,by omega,st,pend,tmps,by rw[h id ver e' len rfl];exact h3,h4,fun i v hv=>(h5 i v hv).imp fun y hy=>⟨hy.1,hy.2.mono k⟩,d⟩
theorem iO.lt {L:Nat->aB AO} {nS id ver e len:Nat} {po:gD} (c:iO C L lim nS po (.atp id ver e len)):lim<=id/\id<nS:=by
 cases po with
 |box cells=>exact⟨c.1,c.2.1⟩
 |lst ty e g rows=>exact⟨c.1,c.2.1⟩
 |lz ty e dp rows=>exact⟨c.1,c.2.1⟩
 |mp es=>exact⟨c.1,c.2.1⟩
 |fl fs=>exact⟨c.1,c.2.1⟩
 |loop N e ps a b busy fin=>exact⟨c.1,c.2.1⟩
theorem HR.lt {L:Nat->aB AO} {nS:Nat} (H:HR C h L lim nS) {k id ver e len:Nat} (hk:aM h k≠none) (a:C k=some (.atp id ver e len)):lim<=id/\id<nS:=by
 cases ho:aM h k with
 |none=>exact absurd ho hk
 |some po=>
  obtain⟨pl,h1,h2⟩:=H.ob k po ho;rw[a]at h1;cases h1;exact h2.lt
theorem Rm (a:cM C n h lim s) {k:Nat} (hk:n<=k):C k=none:=by
 cases hc:C k with
 |none=>rfl
 |some pl=>have:=a.dom k pl hc;omega
theorem tJ (a:cM C n h lim s) {k:Nat} (hk:n<=k):aM h k=none:=by
 cases hc:aM h k with
 |none=>rfl
 |some po=>
  obtain⟨pl,h1,_⟩:=a.hr.ob k po hc;have:=a.dom k pl h1;omega
theorem dR1 (b:cM C n h lim s) {po:gD} {pl:Pl}:∀k o,aM h k=some o->∃o',aM ((n,po)::h) k=some o'/\(eO o'=true->eO o=true/\ext C n pl k=C k):=fun k o hk=>by
 have a:n≠k:=fun e=>by rw[tJ b (by omega)]at hk;cases hk
 exact⟨o,by simp[aM,a,hk],fun hb=>⟨hb,by simp[ext,Ne.symm a]⟩⟩
theorem qB (g:cM C n h lim s) {po:gD} {ao:AO} {ver e len:Nat} (x:iO (ext C n (.atp s.n ver e len)) (Sim.look (.ob s.n ao::s.h)) lim (s.n+1) po (.atp s.n ver e len)):
  cM (ext C n (.atp s.n ver e len)) (n+1) ((n,po)::h) lim {h:=.ob s.n ao::s.h,n:=s.n+1}/\Fr C h s (ext C n (.atp s.n ver e len)) ((n,po)::h) {h:=.ob s.n ao::s.h,n:=s.n+1}/\
  ∀id,id<s.n->Sim.look (.ob s.n ao::s.h) id=Sim.look s.h id:=by
 have p:=jH g (.atp s.n ver e len)
 have c:∀id,id<s.n->Sim.look (.ob s.n ao::s.h) id=Sim.look s.h id:=fun id i=>by
  rw[eD,iL2 (by omega)]
 have f:∀k,aM ((n,po)::h) k≠none->k≠n->aM h k≠none:=fun k hk j=>by
  simpa[aM,Ne.symm j]using hk
 have d:∀k q,k≠n->ext C n (.atp s.n ver e len) k=some q->C k=some q:=fun k q j hk=>by
  simpa[ext,j]using hk
 refine⟨⟨⟨fun k o hk=>?_,fun k k' id v1 m w v2 e2 z h1 h2 h3 h4=>?_,fun id o y=>?_⟩,fun k pl hk=>?_,⟨by simp,g.wf⟩,by have:=g.lim;show lim<=s.n+1;omega⟩,⟨.new _ _ _,by simp,fun id i _=>c id i,fun id i t=>?_,dR1 g,fun _ _ h=>h,fun _ _ h=>.inl h⟩,c⟩;simp only[aM]at hk;split at hk;rename_i m;subst m;cases hk;exact⟨_,by simp[ext],x⟩;obtain⟨pl,u,r⟩:=g.hr.ob k o hk;refine⟨pl,p.1 _ _ u,r.mono (by simp) p (fun id ver e len hp=>?_)⟩;subst hp;exact c id r.lt.2;by_cases a:k=n;by_cases b:k'=n;rw[a,b];exfalso;subst a;simp[ext]at h3;have:=(g.hr.lt (f k' h2 b) (d k' _ b h4)).2;omega;by_cases b:k'=n;exfalso;subst b;simp[ext]at h4;have:=(g.hr.lt (f k h1 a) (d k _ a h3)).2;omega;exact g.hr.inj k k' id v1 m w v2 e2 z (f k h1 a) (f k' h2 b) (d k _ a h3) (d k' _ b h4);obtain⟨z1,z2,z3,z4⟩:=g.hr.zr id o y;refine⟨(c id z2).trans z1,Nat.lt_succ_of_lt z2,fun k v e' l h1 h2=>?_,z4⟩;by_cases a:k=n;subst a;simp[ext]at h2;omega
 grind
 by_cases a:k=n;omega;have:=g.dom k pl (d k pl a hk);omega;obtain⟨k,v1,m,w,u,r⟩:=t;by_cases a:k=n;subst a;simp[ext]at r;omega;exact⟨k,v1,m,w,f k u a,d k _ a r⟩
theorem No (C:Cx) (L:Nat->aB AO) (lim nS ty e:Nat) (g:Bool):iO C L lim nS (oE ty e g) .nil:=by
 unfold oE;cases Nat.ble 4294967296 e<;>rfl
theorem Rn (d:cM C n h lim s) {ty e:Nat} {g:Bool}:cM (ext C n .nil) (n+1) ((n,oE ty e g)::h) lim s/\Fr C h s (ext C n .nil) ((n,oE ty e g)::h) s:=by
 have m:=jH d .nil
 have f:∀k,aM ((n,oE ty e g)::h) k≠none->k≠n->aM h k≠none:=fun k hk i=>by
  simpa[aM,Ne.symm i]using hk
 have c:∀k q,k≠n->ext C n .nil k=some q->C k=some q:=fun k q i hk=>by
  simpa[ext,i]using hk
 refine⟨⟨⟨fun k o hk=>?_,fun k k' id v1 j w v2 e2 y h1 h2 h3 h4=>?_,fun id o x=>?_⟩,fun k pl hk=>?_,d.wf,d.lim⟩,⟨.refl _ _,iH2 _,fun id r _=>rfl,fun id r t=>?_,dR1 d,fun _ _ h=>h,fun _ _ h=>.inl h⟩⟩;simp only[aM]at hk;split at hk;rename_i j;subst j;cases hk;exact⟨.nil,by simp[ext],No ..⟩;obtain⟨pl,u,p⟩:=d.hr.ob k o hk;exact⟨pl,m.1 _ _ u,p.mono (iH2 _) m (fun _ _ _ _ _=>rfl)⟩;by_cases a:k=n;subst a;simp[ext]at h3;by_cases b:k'=n;subst b;simp[ext]at h4;exact d.hr.inj k k' id v1 j w v2 e2 y (f k h1 a) (f k' h2 b) (c k _ a h3) (c k' _ b h4);obtain⟨z1,z2,z3,z4⟩:=d.hr.zr id o x;refine⟨z1,z2,fun k v e' l h1 h2=>?_,z4⟩;by_cases a:k=n;subst a;simp[ext]at h2
 grind
 by_cases a:k=n;omega;have:=d.dom k pl (c k pl a hk);omega;obtain⟨k,v1,j,w,u,p⟩:=t;by_cases a:k=n;subst a;simp[ext]at p;exact⟨k,v1,j,w,f k u a,c k _ a p⟩
theorem qC (f:cM C n h lim s) {k id ver e len:Nat} {po po':gD} {ao:AO} (hk:aM h k=some po) (q:C k=some (.atp id ver e len))
  (z:iO C (Sim.look (upd s.h id ao)) lim s.n po' (.atp id ver e len)) (hb:eO po'=eO po):
  cM C n (eI h k po') lim {h:=upd s.h id ao,n:=s.n}/\Fr C h s C (eI h k po') {h:=upd s.h id ao,n:=s.n}:=by
 have g:∀j,aM (eI h k po') j=if j=k then some po' else aM h j:=fun j=>by
  rw[fE];simp[hk]
 have c:∀j,aM (eI h k po') j≠none->aM h j≠none:=fun j d=>by grind
 have a:∀j,j≠id->Sim.look (upd s.h id ao) j=Sim.look s.h j:=fun j d=>by
  rw[Sim.look_upd];simp[d]
 refine⟨⟨⟨fun j o d=>?_,fun j w i v1 b m v2 e2 y h1 h2 h3 h4=>f.hr.inj j w i v1 b m v2 e2 y (c j h1) (c w h2) h3 h4,fun i o x=>?_⟩,f.dom,f.wf.upd _ _,f.lim⟩,⟨.upd _ _ _ _,iH2 _,fun i hi t=>a i (fun b=>t ?_),fun i hi t=>?_,fun j o d=>?_,fun _ _ h=>h,fun _ _ h=>.inl h⟩⟩;rw[g]at d;split at d
 grind
 rename_i r;obtain⟨pl,p,u⟩:=f.hr.ob j o d;refine⟨pl,p,u.mono (iH2 _) (.refl C) (fun i v1 b m hp=>a i (fun e2=>r ?_))⟩;subst hp;subst e2;exact f.hr.inj j k i v1 b m ver e len (by rw[d];simp) (by rw[hk];simp) p q;obtain⟨z1,z2,z3,z4⟩:=f.hr.zr i o x;refine⟨(a i (fun b=>?_)).trans z1,z2,fun j v e' l h1 h2=>z3 j v e' l (c j h1) h2,z4⟩;subst b;exact z3 k ver e len (by rw[hk];simp) q;subst b;exact⟨k,ver,e,len,by rw[hk];simp,q⟩;obtain⟨j,v1,b,m,p,u⟩:=t;exact⟨j,v1,b,m,c j p,u⟩
 grind
end
end Go.P
namespace Go.P
open Go.Sim (AV AO Hp fA upd St IC IX Ex dV CK Wf Out doOp)
section
variable {C:Cx} {y:AV}
theorem eQ {x:Value} (h:RV C (.v x) y):y=.v x:=by cases h with|cl h=>cases h;rfl
theorem lJ {cs:aA PV} (h:RV C (.agg cs) y):∃cs',y=.agg cs'/\LR (RV C) cs cs':=by
 cases h with
 |cl h=>cases h with|agg a b=>exact⟨_,rfl,a,fun j x y p q=>.cl (b j x y p q)⟩
 |agg a b=>exact⟨_,rfl,a,b⟩
theorem Iw {cs:aA PV} (h:RV C (.tup cs) y):∃cs',y=.tup cs'/\LR (RV C) cs cs':=by
 cases h with
 |cl h=>cases h with|tup a b=>exact⟨_,rfl,a,fun j x y p q=>.cl (b j x y p q)⟩
 |tup a b=>exact⟨_,rfl,a,b⟩
theorem Af {cs:aA PV} (h:RV C (.ip cs) y):∃cs',y=.ip cs'/\LR (RC false) cs cs':=by
 cases h with
 |cl h=>cases h with|ip a b=>exact⟨_,rfl,a,b⟩
theorem Ld {e:Nat} {rows:aA (aA PV)} (h:RV C (.is e rows) y):(∃rows',y=.is e rows'/\RR rows rows')\/(rows=[]/\(y=.v (.slice none 0 0)\/y=.es)):=by
 cases h with
 |cl h=>cases h with
  |is a b c=>exact .inl ⟨_,rfl,.of_is a b c⟩
  |isn=>exact .inr ⟨rfl,.inl rfl⟩
theorem dS1 {es:aA (PV×PV)} (h:RV C (.im es) y):∃es',y=.im es'/\ER es es':=by
 cases h with
 |cl h=>cases h with|im a b c=>exact⟨_,rfl,a,fun j x y p q=>⟨b j x y p q,c j x y p q⟩⟩
theorem jI {k o:Nat} (h:RV C (.ref k o) y):∃id ver e len,C k=some (.atp id ver e len)/\y=.ptr id ver 0 o:=by
 cases h with
 |cl h=>cases h
 |ref h=>exact⟨_,_,_,_,h,rfl⟩
theorem gV {k:Nat} (h:RV C (.own k) y):(∃id ver e len,C k=some (.atp id ver e len)/\y=.sl e id ver 0 len none)\/(C k=some .nil/\(y=.v (.slice none 0 0)\/y=.es)):=by
 cases h with
 |cl h=>cases h
 |own h=>exact .inl ⟨_,_,_,_,h,rfl⟩
 |ownn h hy=>exact .inr ⟨h,.inl hy⟩
theorem Cf {e:Nat} {rows:aA (aA PV)} (h:RV C (.is e rows) y):(∃rows',y=.is e rows'/\RR rows rows')\/(rows=[]/\y=.v (.slice none 0 0)):=by
 cases h with
 |cl h=>cases h with
  |is a b c=>exact .inl ⟨_,rfl,.of_is a b c⟩
  |isn=>exact .inr ⟨rfl,rfl⟩
theorem kY {k:Nat} (h:RV C (.own k) y):(∃id ver e len,C k=some (.atp id ver e len)/\y=.sl e id ver 0 len none)\/(C k=some .nil/\y=.v (.slice none 0 0)):=by
 cases h with
 |cl h=>cases h
 |own h=>exact .inl ⟨_,_,_,_,h,rfl⟩
 |ownn h hy=>exact .inr ⟨h,hy⟩
theorem xO {k i o:Nat} (h:RV C (.el k i o) y):∃id ver e len,C k=some (.atp id ver e len)/\y=.ptr id ver i o:=by
 cases h with
 |cl h=>cases h
 |el h=>exact⟨_,_,_,_,h,rfl⟩
theorem tK {k:Nat} (h:RV C (.map k) y):∃id ver e len,C k=some (.atp id ver e len)/\y=.map id:=by
 cases h with
 |cl h=>cases h
 |map h=>exact⟨_,_,_,_,h,rfl⟩
theorem Cg {k:Nat} (h:RV C (.yld k) y):∃id ver e len,C k=some (.atp id ver e len)/\y=.fn (.yield id) [] []:=by
 cases h with
 |cl h=>cases h
 |yld h=>exact⟨_,_,_,_,h,rfl⟩
theorem uT {f:FuncId} {a b:aA PV} (h:RV C (.fn f a b) y):∃a' b',y=.fn (.func f) a' b'/\LR (RV C) a a'/\LR (RV C) b b':=by
 cases h with
 |cl h=>cases h with|fn p q r s=>exact⟨_,_,rfl,⟨p,fun j x y h1 h2=>.cl (r j x y h1 h2)⟩,⟨q,fun j x y h1 h2=>.cl (s j x y h1 h2)⟩⟩
 |fn p q r s=>exact⟨_,_,rfl,⟨p,r⟩,⟨q,s⟩⟩
theorem LR.closed {xs:aA PV} {ys:aA AV} {p:Bool} (h:LR (RC p) xs ys):LR (RV C) xs ys:=h.mono fun _ _ h=>.cl h.weak
theorem tL {α:Type} {l:aA α} {o:Nat} {c:α} {t:aA α} (h:l.drop o=c::t):l[o]? =some c:=by
 have:=congrArg (fun l=>l[0]?) h;simpa[jW2]using this
end
section
variable {R:Type} {C:Cx} {n:Nat} {h:aT} {lim:Nat} {s:Hp} {k:dV} {xs:List PV} {ys:List AV} {K:PV->aT->Nat->Option R} {r:R}
theorem oG (C:Cx) (n:Nat) (pl:Pl):ext C n pl n=some pl:=iJ2 rfl
theorem aD {A:Type} {a:A} {P:Prop} (h:(none:aB A)=some a):P:=by cases h
theorem fX1 (a:cM C n h lim s) (b:LR (RV C) xs ys) (hk:dF .mov xs h n K=some r):eE C n h lim s .mov ys K r:=by
 rcases xs with _|⟨x,_|⟨x2,t⟩⟩
 exact aD hk;have hk:K x h n=some r:=hk;obtain⟨y,_,rfl,h1,h2⟩:=b.inv_cons;rw[h2.inv_nil];exact bG a rfl h1 hk;exact aD hk
theorem Xl (c:cM C n h lim s) (d:LR (RV C) xs ys) (hk:dF .nilc xs h n K=some r):eE C n h lim s .nilc ys K r:=by
 rcases xs with _|⟨x,_|⟨x2,t⟩⟩
 exact aD hk;obtain⟨y,_,rfl,h1,h2⟩:=d.inv_cons;rw[h2.inv_nil];cases x with
 |ref k o=>obtain⟨id,ver,e,len,hc,rfl⟩:=jI h1;exact bG c rfl h1 hk
 |ip cs=>obtain⟨cs',rfl,_⟩:=Af h1;exact bG c rfl h1 hk
 |el k i o=>obtain⟨id,ver,e,len,hc,rfl⟩:=xO h1;exact bG c rfl h1 hk
 |fn f a b=>obtain⟨a',b',rfl,_⟩:=uT h1;exact bG c rfl h1 hk
 |yld k=>obtain⟨id,ver,e,len,hc,rfl⟩:=Cg h1;exact bG c rfl h1 hk
 |_=>exact aD hk
 exact aD hk
theorem fY1 {ty:TypeId} {size:Nat} (b:cM C n h lim s) (f:LR (RV C) xs ys) (hk:dF (.box ty size) xs h n K=some r):eE C n h lim s (.box ty size) ys K r:=by
 rcases xs with _|⟨x,_|⟨x2,t⟩⟩
 exact aD hk;have hk:lI x (fun cs=>bif Nat.beq cs.length size then(bif Nat.beq size 0 then none else K (.ref n 0) ((n,.box cs)::h) (n+1))else none)=some r:=hk;obtain⟨y,_,rfl,h1,h2⟩:=f.inv_cons;rw[h2.inv_nil];rw[jU,iC2]at hk;obtain⟨cs,c,hk⟩:=hk;obtain⟨cs',hc',hl⟩:=oF h1 c;rw[bK]at hk;by_cases d:cs.length=size;rw[jR2 d,iT2,bK]at hk;by_cases e2:size=0
 grind
 rw[jV2 e2,jG2]at hk;have a:=jH b (.atp s.n 0 size 1);obtain⟨g,i,j⟩:=qB b (po:=.box cs) (ao:=.arr true ty size 0 [cs']) (ver:=0) (e:=size) (len:=1) ⟨b.lim,by omega,ty,size,cs',by rw[eD,iJ2 rfl],hl.mono (fun _ _ h=>h.mono a)⟩;refine⟨_,_,_,_,{v:=.ptr s.n 0 0 0,new:=some (.arr true ty size 0 [cs'])},hk,?_,.ref (oG C n _),g,a,by omega,i,fun _=>j⟩;simp only[doOp,hc'];rw[iJ2 ⟨by rw[<-hl.1];exact d,e2⟩]
 grind
 exact aD hk
theorem Ro {ty:TypeId} {zero:aA Value} (a:cM C n h lim s) (c:LR (RV C) xs ys) (hk:dF (.alloc ty zero) xs h n K=some r):eE C n h lim s (.alloc ty zero) ys K r:=by
 rcases xs with _|⟨x,t⟩
 have hk:rI (zero.map .v) (fun cs=>K (.ref n 0) ((n,.box cs)::h) (n+1))=some r:=hk;rw[oZ]at hk;rw[c.inv_nil];have b:=jH a (.atp s.n 0 zero.length 1);obtain⟨d,f,g⟩:=qB a (po:=.box (zero.map .v)) (ao:=.arr true ty zero.length 0 [Sim.zeroRow zero]) (ver:=0) (e:=zero.length) (len:=1) ⟨a.lim,by omega,ty,zero.length,Sim.zeroRow zero,by rw[eD,iJ2 rfl],LR.zero zero⟩;exact⟨_,_,_,_,{v:=.ptr s.n 0 0 0,new:=some (.arr true ty zero.length 0 [Sim.zeroRow zero])},hk,rfl,.ref (oG C n _),d,b,by omega,f,fun _=>g⟩;exact aD hk
theorem xP:∀(cells:aA PV) (parts:aA (Nat×Nat)) (xs:aA PV) (K:aA PV->aB R) (r:R) (a ys:aA AV),Fg cells parts xs K=some r->LR (RV C) cells a->LR (RV C) xs ys->
  ∃cs cs',K cs=some r/\Sim.fillParts a parts ys=some cs'/\LR (RV C) cs cs'
 |cells,[],[],K,r,a,ys,h,hl,hx=>by
  rw[hx.inv_nil]
  exact⟨cells,a,h,rfl,hl⟩
 |cells,(off,m)::ps,x::xs,K,r,a,ys,h,hl,hx=>by
  obtain⟨y,d,rfl,h1,h2⟩:=hx.inv_cons
  simp only[Fg,jU,iC2]at h
  obtain⟨cs,c,h⟩:=h
  obtain⟨cs',hc',b⟩:=oF h1 c
  rw[bK]at h
  by_cases e:cs.length=m
  rw[jR2 e,iT2]at h
  obtain⟨i,f⟩:=iA _ _ _ _ _ h
  obtain⟨q,g,q1,q2,q3⟩:=xP _ ps xs K r _ d f (hl.setL b off) h2
  refine⟨q,g,q1,?_,q3⟩
  simp only[Sim.fillParts,hc']
  rw[iJ2 ⟨by rw[<-b.1];exact e,by rw[<-hl.1];omega⟩]
  exact q2
  grind
 |cells,[],_::_,K,r,a,ys,h,hl,hx=>aD h
 |cells,_::_,[],K,r,a,ys,h,hl,hx=>aD h
theorem Rp {zero:aA Value} {parts:aA (Nat×Nat)} (e:cM C n h lim s) (f:LR (RV C) xs ys) (hk:dF (.build zero parts) xs h n K=some r):eE C n h lim s (.build zero parts) ys K r:=by
 have hk:rI (zero.map .v) (fun cs=>Fg cs parts xs fun cs=>K (.agg cs) h n)=some r:=by
  rcases xs with _|⟨a,_|⟨b,_|⟨c,t⟩⟩⟩<;>exact hk
 rw[oZ]at hk;obtain⟨cs,cs',g,i,d⟩:=xP _ _ _ _ _ _ _ hk (LR.zero (C:=C) zero) f;refine bG e ?_ (.agg d.1 d.2) g;rcases ys with _|⟨a,_|⟨b,_|⟨c,t⟩⟩⟩<;>simp[doOp,i]
theorem qD (f:cM C n h lim s) {k id ver e len:Nat} {cs:aA PV} (hg:aM h k=some (.box cs)) (d:C k=some (.atp id ver e len)):lim<=id/\∃ty esz row,Sim.look s.h id=some (.arr true ty esz ver [row])/\LR (RV C) cs row:=by
 obtain⟨pl,h1,h2⟩:=f.hr.ob k _ hg;rw[d]at h1;cases h1;obtain⟨a,b,c⟩:=h2;exact⟨a,c⟩
theorem iJ (j:cM C n h lim s) {k id ver e len e2 ty:Nat} {g:Bool} {rows:aA (aA PV)} (hg:aM h k=some (.lst ty e2 g rows)) (i:C k=some (.atp id ver e len)):lim<=id/\e=e2/\len=rows.length/\∃els,Sim.look s.h id=some (.arr false (Ab ty) e2 ver els)/\RR rows (els.take rows.length)/\rows.length<=els.length/\(g=false->els.length=rows.length):=by
 obtain⟨pl,h1,h2⟩:=j.hr.ob k _ hg;rw[i]at h1;cases h1;obtain⟨a,b,c,d,f⟩:=h2;exact⟨a,c,d,f⟩
theorem Rq (j:cM C n h lim s) {k id ver e len:Nat} {fs:aA PV} (hg:aM h k=some (.fl fs)) (g:C k=some (.atp id ver e len)):lim<=id/\e=1/\len=fs.length/\∃ty els,Sim.look s.h id=some (.arr false ty 1 ver els)/\els.length=fs.length/\∀(i:Nat) (f:PV) (row:aA AV),fs[i]? =some f->els[i]? =some row->LR (RV C) [f] row:=by
 obtain⟨pl,h1,h2⟩:=j.hr.ob k _ hg;rw[g]at h1;cases h1;obtain⟨a,b,c,d,f⟩:=h2;exact⟨a,c,d,f⟩
theorem Rr (b:cM C n h lim s) {k:Nat} {fs:aA PV} (hg:aM h k=some (.fl fs)) (a:C k=some .nil):False:=by
 obtain⟨pl,h1,h2⟩:=b.hr.ob k _ hg;rw[a]at h1;cases h1;exact h2
theorem jO (b:cM C n h lim s) {k e2 ty:Nat} {g:Bool} {rows:aA (aA PV)} (hg:aM h k=some (.lst ty e2 g rows)) (a:C k=some .nil):rows=[]:=by
 obtain⟨pl,h1,h2⟩:=b.hr.ob k _ hg;rw[a]at h1;cases h1;exact h2
theorem Fo (f:cM C n h lim s) {k id ver e len:Nat} {es:aA (PV×PV)} (hg:aM h k=some (.mp es)) (d:C k=some (.atp id ver e len)):lim<=id/\∃es',Sim.look s.h id=some (.map es')/\EM es es':=by
 obtain⟨pl,h1,h2⟩:=f.hr.ob k _ hg;rw[d]at h1;cases h1;obtain⟨a,b,c⟩:=h2;exact⟨a,c⟩
theorem Ag {y:AV} {d e:Nat} {rows:aA (aA PV)} (h:RV C (.zs d e rows) y):RZ C.z d (.is e rows) y:=by
 cases h with
 |cl h=>cases h
 |zs h=>exact h
theorem dT1 {y:AV} {es:aA (PV×PV)} (h:RV C (.zm es) y):(∃id es',y=.map id/\C.z id=some (.map es')/\EM es es')\/(es=[]/\y=.v (.map none)):=by
 cases h with
 |cl h=>cases h
 |zm h he=>exact .inl ⟨_,_,rfl,h,he⟩
 |zm0=>exact .inr ⟨rfl,rfl⟩
theorem uU (b:cM C n h lim s) {k id ver e len e2 ty dp:Nat} {rows:aA (aA PV)} (hg:aM h k=some (.lz ty e2 dp rows)) (a:C k=some (.atp id ver e len)):lim<=id/\id<s.n/\e=e2/\len=rows.length/\fU ty=false/\∃els,Sim.look s.h id=some (.arr false ty e2 ver els)/\Ac C.z dp rows els:=by
 obtain⟨pl,h1,h2⟩:=b.hr.ob k _ hg;rw[a]at h1;cases h1;exact h2
theorem tM (b:cM C n h lim s) {k e2 ty dp:Nat} {rows:aA (aA PV)} (hg:aM h k=some (.lz ty e2 dp rows)) (a:C k=some .nil):rows=[]:=by
 obtain⟨pl,h1,h2⟩:=b.hr.ob k _ hg;rw[a]at h1;cases h1;exact h2
theorem dU1 {p:Bool} {e:Nat} {rows:aA (aA PV)} {y:AV} (h:RC p (.is e rows) y):(∃rows',y=.is e rows'/\RR rows rows')\/(rows=[]/\y=.v (.slice none 0 0)):=by
 cases h with
 |is a b c=>exact .inl ⟨_,rfl,.of_is a b c⟩
 |isn=>exact .inr ⟨rfl,rfl⟩
theorem Ah {z:Nat->aB AO} {d e:Nat} {rows:aA (aA PV)} {y:AV} (h:RZ z d (.is e rows) y):
  ((∃rows',y=.is e rows'/\RR rows rows')\/(rows=[]/\y=.v (.slice none 0 0)))\/∃c id ver ty els,d=c+1/\y=.sl e id ver 0 rows.length none/\z id=some (.arr false ty e ver els)/\rows.length<=els.length/\Ac z c rows (els.take rows.length):=by
 cases d with
 |zero=>exact .inl (dU1 h)
 |succ d=>
  rcases h with h|⟨e',rows',id,ver,ty,els,h1,h2,h3,h4,h5⟩
  exact .inl (dU1 h);cases h1;refine .inr ⟨d,id,ver,ty,els,rfl,h2,h3,h4,by simp[Nat.min_eq_left h4],fun i r r' a b=>h5 i r r' a ?_⟩;rw[jP2]at b;split at b;exact b;cases b
theorem Ix {rows:aA (aA PV)} {els:aA (aA AV)} (hr:RR rows (els.take rows.length)) {i:Nat} {row:aA PV} (hi:rows[i]? =some row):∃a,els[i]? =some a/\LR (RC true) row a:=by
 obtain⟨a,h1,h2⟩:=hr.get hi;have b:i<rows.length:=(iG2.1 hi).1;rw[jP2,iJ2 b]at h1;exact⟨a,h1,h2⟩
def Ai (C:Cx) (n:Nat) (h:aT) (s:Hp) (k:dV) (ys:aA AV) (K:PV->aT->Nat->aB R) (r:R):Prop:=∃v y,(∀lim nS,doOp (Sim.look s.h) lim nS k ys=some {v:=y})/\RV C v y/\K v h n=some r
theorem xQ {k:dV} {v:PV} {y:AV} (hd:∀lim nS,doOp (Sim.look s.h) lim nS k ys=some {v:=y}) (hv:RV C v y) (hK:K v h n=some r):Ai C n h s k ys K r:=⟨v,y,hd,hv,hK⟩
theorem Ai.step (d:cM C n h lim s) {k:dV} (h1:Ai C n h s k ys K r):eE C n h lim s k ys K r:=by
 obtain⟨v,y,a,b,c⟩:=h1;exact bG d (a _ _) b c
theorem xR (l:cM C n h lim s) (B:LR (RV C) xs ys) (hk:dF .loadS xs h n K=some r):Ai C n h s .loadS ys K r:=by
 rcases xs with _|⟨x,_|⟨x2,t⟩⟩
 exact aD hk;obtain⟨y,_,rfl,h1,h2⟩:=B.inv_cons;rw[h2.inv_nil];cases x with
 |ref k o=>
  have hk:hK h k (fun ob=>match ob with
   |.box cs=>gE o cs fun cs=>match cs with
    |c::_=>K c h n
    |[]=>none
   |_=>none)=some r:=hk
  rw[eK,iC2]at hk;obtain⟨ob,hg,hk⟩:=hk;cases ob with
  |box cs=>
   obtain⟨D,a⟩:=dL _ _ _ _ hk;obtain⟨id,ver,e,len,d,rfl⟩:=jI h1;obtain⟨_,ty,esz,row,j,hl⟩:=qD l hg d;cases hd:cs.drop o with
   |nil=>rw[hd]at a;exact aD a
   |cons c t=>
    rw[hd]at a;obtain⟨y,hy,hv⟩:=hl.get (tL hd);exact xQ (fun lim nS=>by simp[doOp,j,hy]) hv a
  |_=>exact aD hk
 |ip cs=>
  obtain⟨cs',rfl,hl⟩:=Af h1;cases cs with
  |nil=>exact aD hk
  |cons c t=>
   obtain⟨y,q,rfl,hv,_⟩:=hl.inv_cons;exact xQ (fun _ _=>rfl) (.cl hv) hk
 |el k i o=>
  have hk:hK h k (fun ob=>match ob with
   |.lst _ _ _ rows=>cA (xG rows i o) fun c=>K c h n
   |.fl fs=>bif Nat.beq o 0 then(gE i fs fun fs=>match fs with
    |f::_=>K f h n
    |[]=>none)else none
   |_=>none)=some r:=hk
  rw[eK,iC2]at hk;obtain⟨ob,hg,hk⟩:=hk;cases ob with
  |lst ty e2 g rows=>
   simp only[bT,iC2,xG]at hk;obtain⟨c,⟨row,hi,A⟩,hk⟩:=hk;obtain⟨id,ver,e,len,d,rfl⟩:=xO h1;obtain⟨_,rfl,_,els,j,hr,_⟩:=iJ l hg d;obtain⟨u,m,hl⟩:=Ix hr hi;obtain⟨y,hy,hv⟩:=hl.get A;exact xQ (fun lim nS=>by simp[doOp,j,m,hy]) (.cl hv.weak) hk
  |fl fs=>
   simp only[bK]at hk;by_cases v:o=0;subst v;rw[jR2 rfl,iT2]at hk;obtain⟨D,a⟩:=dL _ _ _ _ hk;obtain⟨id,ver,e,len,d,rfl⟩:=xO h1;obtain⟨_,_,_,ty,els,j,hlen,hr⟩:=Rq l hg d;cases hd:fs.drop i with
   |nil=>rw[hd]at a;exact aD a
   |cons c t=>
    rw[hd]at a;have hi:=tL hd;have w:=(iG2.1 hi).1;obtain⟨y,q,b,hv,z⟩:=(hr i c (els[i]'(by omega)) hi (by simp)).inv_cons;rw[z.inv_nil]at b;have p:els[i]? =some [y]:=by rw[<-b];simp
    exact xQ (fun lim nS=>by simp[doOp,j,p]) hv a
   grind
  |_=>exact aD hk
 |_=>exact aD hk
 exact aD hk
theorem xS {m:Nat} (w:cM C n h lim s) (B:LR (RV C) xs ys) (hk:dF (.loadA m) xs h n K=some r):Ai C n h s (.loadA m) ys K r:=by
 rcases xs with _|⟨x,_|⟨x2,t⟩⟩
 exact aD hk;obtain⟨y,_,rfl,h1,h2⟩:=B.inv_cons;rw[h2.inv_nil];cases x with
 |ref k o=>
  have hk:hK h k (fun ob=>match ob with
   |.box cs=>gE o cs fun cs=>nZ m cs fun cs=>K (.agg cs) h n
   |_=>none)=some r:=hk
  rw[eK,iC2]at hk;obtain⟨ob,hg,hk⟩:=hk;cases ob with
  |box cs=>
   obtain⟨E,D⟩:=dL _ _ _ _ hk;obtain⟨u,v⟩:=mL _ _ _ _ D;obtain⟨id,ver,e,len,f,rfl⟩:=jI h1;obtain⟨_,ty,esz,row,l,hl⟩:=qD w hg f;have hlen:=hl.1;simp only[List.length_drop]at u;have d:=(hl.drop o).take m;exact xQ (fun lim nS=>by simp[doOp,l];omega) (.agg d.1 d.2) v
  |_=>exact aD hk
 |ip cs=>
  obtain⟨cs',rfl,hl⟩:=Af h1;have hk:nZ m cs (fun cs=>K (.agg cs) h n)=some r:=hk;obtain⟨u,v⟩:=mL _ _ _ _ hk;have d:=hl.take m;refine xQ (fun lim nS=>?_) (.cl (.agg d.1 d.2)) v;simp only[doOp];rw[iJ2 (by rw[<-hl.1];exact u)]
 |el k i o=>
  have hk:hK h k (fun ob=>match ob with
   |.lst _ _ _ rows=>cA (rK rows i o m) fun cs=>K (.agg cs) h n
   |_=>none)=some r:=hk
  rw[eK,iC2]at hk;obtain⟨ob,hg,hk⟩:=hk;cases ob with
  |lst ty e2 g rows=>
   simp only[bT,iC2,rK]at hk;obtain⟨c,⟨row,hi,q⟩,hk⟩:=hk;split at q;rename_i A;cases q;obtain⟨id,ver,e,len,f,rfl⟩:=xO h1;obtain⟨_,rfl,_,els,l,hr,_⟩:=iJ w hg f;obtain⟨z,p,hl⟩:=Ix hr hi;have d:=(hl.drop o).take m;have hlen:=hl.1;exact xQ (fun lim nS=>by simp[doOp,l,p];omega) (.cl (.agg d.1 fun j x y a b=>(d.2 j x y a b).weak)) hk;cases q
  |_=>exact aD hk
 |_=>exact aD hk
 exact aD hk
theorem Rs (a:cM C n h lim s) (b:LR (RV C) xs ys) (hk:dF .loadS xs h n K=some r):eE C n h lim s .loadS ys K r:=(xR a b hk).step a
theorem Rt {m:Nat} (a:cM C n h lim s) (b:LR (RV C) xs ys) (hk:dF (.loadA m) xs h n K=some r):eE C n h lim s (.loadA m) ys K r:=(xS a b hk).step a
theorem Ru {m:Nat} (y:cM C n h lim s) (P:LR (RV C) xs ys) (hk:dF (.store m) xs h n K=some r):eE C n h lim s (.store m) ys K r:=by
 rcases xs with _|⟨p,_|⟨x,_|⟨x2,t⟩⟩⟩
 exact aD hk;exact aD hk;obtain⟨T,_,rfl,h1,h2⟩:=P.inv_cons;obtain⟨U,_,rfl,h3,h4⟩:=h2.inv_cons;rw[h4.inv_nil];cases p with
 |ref k o=>
  have hk:hK h k (fun ob=>match ob with
   |.box cs=>lI x fun ys=>bif Nat.beq ys.length m then pX cs o ys fun cs=>gF h k (.box cs) fun h=>K .undef h n else none
   |_=>none)=some r:=hk
  rw[eK,iC2]at hk;obtain⟨ob,hg,hk⟩:=hk;cases ob with
  |box cs=>
   simp only[jU,iC2]at hk;obtain⟨zs,w,hk⟩:=hk;obtain⟨c,u,d⟩:=oF h3 w;rw[bK]at hk;by_cases M:zs.length=m;rw[jR2 M,iT2]at hk;obtain⟨S,R⟩:=iA _ _ _ _ _ hk;have G:=dN _ _ _ _ _ R;obtain⟨id,ver,e,len,j,rfl⟩:=jI h1;obtain⟨b,ty,esz,row,z,hl⟩:=qD y hg j;have l:=(y.hr.lt (by rw[hg];simp) j).2;obtain⟨H,J⟩:=qC y (po':=.box (Sim.setL cs o zs)) (ao:=.arr true ty esz ver [Sim.setL row o c]) hg j ⟨b,l,ty,esz,_,by rw[Sim.look_upd];simp[z],hl.setL d o⟩ rfl;have hlen:=hl.1;have q:=d.1;refine⟨_,_,_,_,{v:=.undef,up:=some (id,.arr true ty esz ver [Sim.setL row o c])},G,?_,.undef,H,.refl _,iH2 _,J,fun he=>by cases he⟩;simp only[doOp,u,z];rw[iJ2 ⟨by trivial,b,by omega⟩];simp only[kS2];rw[iJ2 (by omega)];rfl;rw[jV2 M]at hk;exact aD hk
  |_=>exact aD hk
 |el k i o=>
  have hk:hK h k (fun ob=>match ob with
   |.lst ty e g rows=>lI x fun ys=>bif Nat.beq ys.length m&&ys.all eT then cA (xF rows i o ys) fun rows=>gF h k (.lst ty e g rows) fun h=>K .undef h n else none
   |_=>none)=some r:=hk
  rw[eK,iC2]at hk;obtain⟨ob,hg,hk⟩:=hk;cases ob with
  |lst ty e2 g rows=>
   simp only[jU,iC2]at hk;obtain⟨zs,w,hk⟩:=hk;obtain⟨c,u,d⟩:=oF h3 w;by_cases hc:(Nat.beq zs.length m&&zs.all eT)=true;rw[hc,iT2,bT,iC2]at hk;simp only[iD2,bK,iO2]at hc;obtain⟨L,a,hk⟩:=hk;have G:=dN _ _ _ _ _ hk;unfold xF at a;split at a;rename_i row hi;split at a;rename_i O;cases a;obtain⟨id,ver,e,len,j,rfl⟩:=xO h1;obtain⟨b,rfl,hlen,els,z,hr,A,B⟩:=iJ y hg j;have l:=(y.hr.lt (by rw[hg];simp) j).2;obtain⟨f,D,hl⟩:=Ix hr hi;have N:i<rows.length:=(iG2.1 hi).1;have F:=d.plain hc.2
   obtain⟨H,J⟩:=qC y (po':=.lst ty e g (rows.set i (Sim.setL row o zs))) (ao:=.arr false (Ab ty) e ver (els.set i (Sim.setL f o c))) hg j
    ⟨b,l,rfl,by simpa using hlen,els.set i (Sim.setL f o c),by rw[Sim.look_upd];simp[z],by
     rw[List.length_set,List.take_set];exact hr.set (hl.setL F o) i,by simpa using A,by simpa using B⟩ rfl
   have E:=hl.1;have q:=d.1;refine⟨_,_,_,_,{v:=.undef,up:=some (id,.arr false (Ab ty) e ver (els.set i (Sim.setL f o c)))},G,?_,.undef,H,.refl _,iH2 _,J,fun he=>by cases he⟩;simp only[doOp,u,z];rw[iJ2 ⟨by trivial,b,by omega⟩,D];simp only;rw[iJ2 (by omega)];cases a;cases a;simp only[Bool.not_eq_true]at hc;rw[hc]at hk;exact aD hk
  |_=>exact aD hk
 |_=>exact aD hk
 exact aD hk
theorem fZ1 {off:Nat} (b:cM C n h lim s) (d:LR (RV C) xs ys) (hk:dF (.fad off) xs h n K=some r):eE C n h lim s (.fad off) ys K r:=by
 rcases xs with _|⟨x,_|⟨x2,t⟩⟩
 exact aD hk;obtain⟨y,_,rfl,h1,h2⟩:=d.inv_cons;rw[h2.inv_nil];cases x with
 |ref k o=>
  obtain⟨id,ver,e,len,a,rfl⟩:=jI h1;exact bG b rfl (.ref a) hk
 |ip cs=>
  have hk:gE off cs (fun cs=>K (.ip cs) h n)=some r:=hk;obtain⟨g,f⟩:=dL _ _ _ _ hk;obtain⟨cs',rfl,hl⟩:=Af h1;have c:=hl.drop off;exact bG b rfl (.cl (.ip c.1 c.2)) f
 |el k i o=>
  obtain⟨id,ver,e,len,a,rfl⟩:=xO h1;exact bG b rfl (.el a) hk
 |_=>exact aD hk
 exact aD hk
end
end Go.P
namespace Go.P
open Go.Sim (AV AO Hp fA upd St IC IX Ex dV CK Wf Out doOp)
section
variable {R:Type} {C:Cx} {n:Nat} {h:aT} {lim:Nat} {s:Hp} {k:dV} {xs:List PV} {ys:List AV} {K:PV->aT->Nat->Option R} {r:R}
theorem gA1 {e:Nat} (f:cM C n h lim s) (z:LR (RV C) xs ys) (hk:dF (.iad e) xs h n K=some r):eE C n h lim s (.iad e) ys K r:=by
 rcases xs with _|⟨x,_|⟨i,_|⟨x2,t⟩⟩⟩
 exact aD hk;exact aD hk;obtain⟨A,_,rfl,h1,h2⟩:=z.inv_cons;obtain⟨B,_,rfl,h3,h4⟩:=h2.inv_cons;rw[h4.inv_nil];cases i with
 |v iv=>
  cases iv with
  |int kk i=>
   rw[eQ h3];cases x with
   |is e' rows=>
    have hk:(bif Nat.beq e' e then cA (tD rows i) (fun row=>K (.ip row) h n)else none)=some r:=hk;rw[bK]at hk;by_cases l:e'=e;subst l;simp only[kV2,iT2,bT,iC2,tD]at hk;obtain⟨row,c,hk⟩:=hk;split at c;rename_i h0;rcases Ld h1 with⟨rows',rfl,hr⟩|⟨rfl,_⟩
    obtain⟨u,q,hl⟩:=hr.get c;exact bG f (by simp[doOp,Sim.intOf,h0,q]) (.cl (.ip hl.1 fun j x y a b=>(hl.2 j x y a b).weak)) hk;simp at c;cases c
    grind
   |own k=>
    have hk:hK h k (fun ob=>match ob with
     |.lst _ e' _ rows=>bif Nat.beq e' e then cA (rJ rows.length i) (fun i=>K (.el k i 0) h n)else none
     |.fl fs=>bif Nat.beq e 1 then Xj i (fun i=>bif Nat.blt i fs.length then K (.el k i 0) h n else none)else none
     |_=>none)=some r:=hk
    rw[eK,iC2]at hk;obtain⟨ob,hg,hk⟩:=hk;cases ob with
    |lst ty e2 g rows=>
     simp only[bK]at hk;by_cases l:e2=e;subst l;simp only[kV2,iT2,bT,iC2,rJ]at hk;obtain⟨m,p,o⟩:=hk;split at p;rename_i h0;cases p;rcases gV h1 with⟨id,ver,w,len,d,rfl⟩|⟨d,_⟩
     obtain⟨_,rfl,hlen,_⟩:=iJ f hg d;refine bG (v:=.el k i.toNat 0) (y:=.ptr id ver i.toNat 0) f ?_ (.el d) o;simp only[doOp,Sim.intOf];rw[iJ2 ⟨by trivial,h0.1,by omega⟩,kC2];have:=jO f hg d;subst this;simp at h0;omega;cases p
     grind
    |fl fs=>
     simp only[bK]at hk;by_cases l:e=1;subst l;rw[jR2 rfl,iT2]at hk;cases i with
     |negSucc m=>exact aD hk
     |ofNat m=>
      cases hlt:Nat.blt m fs.length with
      |false=>simp only[Xj,hlt,jG2]at hk;exact aD hk
      |true=>
       simp only[Xj,hlt,iT2]at hk;rw[kK2]at hlt;rcases gV h1 with⟨id,ver,w,len,d,rfl⟩|⟨d,_⟩
       obtain⟨_,rfl,hlen,_⟩:=Rq f hg d;refine bG (v:=.el k m 0) (y:=.ptr id ver m 0) f ?_ (.el d) hk;simp only[doOp,Sim.intOf];rw[iJ2 ⟨by trivial,by simp,by simp;omega⟩,kC2];rfl;exact(Rr f hg d).elim
     grind
    |_=>exact aD hk
   |_=>exact aD hk
  |_=>exact aD hk
 |_=>exact aD hk
 exact aD hk
theorem Np (c:cM C n h lim s) (d:LR (RV C) xs ys) (hk:dF .idxStr xs h n K=some r):eE C n h lim s .idxStr ys K r:=by
 rcases xs with _|⟨x,_|⟨i,_|⟨x2,t⟩⟩⟩
 exact aD hk;exact aD hk;obtain⟨f,_,rfl,h1,h2⟩:=d.inv_cons;obtain⟨g,_,rfl,h3,h4⟩:=h2.inv_cons;rw[h4.inv_nil];cases x with
 |v xv=>
  cases xv with
  |string b=>
   cases i with
   |v iv=>
    cases iv with
    |int kk i=>
     rw[eQ h1,eQ h3];have hk:cA (oA b i) (fun b=>K (.v (.int .u8 b)) h n)=some r:=hk;simp only[bT,iC2,oA]at hk;obtain⟨m,a,hk⟩:=hk;split at a;rename_i h0;simp only[iE2]at a;obtain⟨e,hb,rfl⟩:=a;refine bG c ?_ (.cl (.v _)) hk;simp only[doOp,Sim.intOf];rw[iJ2 h0,hb];cases a
    |_=>exact aD hk
   |_=>exact aD hk
  |_=>cases i with
   |v iv=>cases iv<;>exact aD hk
   |_=>exact aD hk
 |_=>cases i with
  |v iv=>cases iv<;>exact aD hk
  |_=>exact aD hk
 exact aD hk
theorem Xm {len e:Nat} {agg:Bool} (b:cM C n h lim s) (f:LR (RV C) xs ys) (hk:dF (.idxA len e agg) xs h n K=some r):eE C n h lim s (.idxA len e agg) ys K r:=by
 rcases xs with _|⟨x,_|⟨i,_|⟨x2,t⟩⟩⟩
 exact aD hk;exact aD hk;obtain⟨g,_,rfl,h1,h2⟩:=f.inv_cons;obtain⟨j,_,rfl,h3,h4⟩:=h2.inv_cons;rw[h4.inv_nil];cases x with
 |agg cs=>
  obtain⟨cs',rfl,hl⟩:=lJ h1;cases i with
  |v iv=>
   cases iv with
   |int kk i=>
    rw[eQ h3];have hk:(bif agg then cA (oB cs i len e) (fun cs=>K (.agg cs) h n)else cA (rL cs i len e) fun c=>K c h n)=some r:=hk;cases agg with
    |true=>
     simp only[iT2,bT,iC2,oB]at hk;obtain⟨q,a,hk⟩:=hk;split at a;rename_i h0;cases a;have d:=(hl.drop (i.toNat*e)).take e;refine bG b ?_ (.agg d.1 d.2) hk;simp only[doOp,Sim.intOf];rw[iJ2 ⟨h0.1,h0.2.1⟩];rfl;cases a
    |false=>
     simp only[jG2,bT,iC2,rL]at hk;obtain⟨q,a,hk⟩:=hk;split at a;rename_i h0;obtain⟨y,hy,hv⟩:=hl.get a;refine bG b ?_ hv hk;simp only[doOp,Sim.intOf];rw[iJ2 h0];simp[hy];cases a
   |_=>exact aD hk
  |_=>exact aD hk
 |_=>cases i with
  |v iv=>cases iv<;>exact aD hk
  |_=>exact aD hk
 exact aD hk
theorem Nq {op:BinOp} {x y:PV} {K:PV->aB R} {r:R} (hk:fU1 op x y K=some r):∃a b c,x=.v a/\y=.v b/\Sim.binS op a b=some c/\K (.v c)=some r:=by
 cases x with
 |v a=>
  cases y with
  |v b=>
   cases a with
   |int k a=>
    cases b with
    |int k' b=>
     have key:∀{z:aB R} {w:aB Value},(op≠.shl/\op≠.shr)->(fU1 op (.v (.int k a)) (.v (.int k' b)) K=bif kEq k k' then z else none)->(Sim.binS op (.int k a) (.int k' b)=if k=k' then w else none)->(z=some r->∃c,w=some c/\K (.v c)=some r)->∃a' b' c,PV.v (.int k a)=.v a'/\PV.v (.int k' b)=.v b'/\Sim.binS op a' b'=some c/\K (.v c)=some r:=by
      intro z w _ f e2 g;rw[f,Lc]at hk;by_cases e:k=k'
      .rw [jR2 e,iT2]at hk
       obtain⟨c,i,j⟩:=g hk;exact⟨_,_,c,rfl,rfl,by rw[e2,iJ2 e];exact i,j⟩
      .rw [jV2 e]at hk;exact aD hk
     cases op
     case shl=>
      have hk:cA (if b<0 then none else some (k.wrap (a*2^min b.toNat k.bits))) (fun r=>K (.v (.int k r)))=some r:=hk;simp only[bT,iC2]at hk;obtain⟨q,d,hk⟩:=hk;split at d
      .cases d
      .rename_i h0
       cases d;exact⟨_,_,_,rfl,rfl,by simp only[Sim.binS];rw[iL2 h0],hk⟩
     case shr=>
      have hk:cA (if b<0 then none else some (a.fdiv (2^min b.toNat k.bits))) (fun r=>K (.v (.int k r)))=some r:=hk;simp only[bT,iC2]at hk;obtain⟨q,d,hk⟩:=hk;split at d
      .cases d
      .rename_i h0
       cases d;exact⟨_,_,_,rfl,rfl,by simp only[Sim.binS];rw[iL2 h0],hk⟩
     case add=>exact key (by simp) rfl rfl (fun h=>⟨_,rfl,h⟩)
     case sub=>exact key (by simp) rfl rfl (fun h=>⟨_,rfl,h⟩)
     case mul=>exact key (by simp) rfl rfl (fun h=>⟨_,rfl,h⟩)
     case and=>exact key (by simp) rfl rfl (fun h=>⟨_,rfl,h⟩)
     case or=>exact key (by simp) rfl rfl (fun h=>⟨_,rfl,h⟩)
     case xor=>exact key (by simp) rfl rfl (fun h=>⟨_,rfl,h⟩)
     case andNot=>exact key (by simp) rfl rfl (fun h=>⟨_,rfl,h⟩)
     case eql=>exact key (by simp) rfl rfl (fun h=>⟨_,rfl,h⟩)
     case neq=>exact key (by simp) rfl rfl (fun h=>⟨_,rfl,h⟩)
     case lss=>exact key (by simp) rfl rfl (fun h=>⟨_,rfl,h⟩)
     case leq=>exact key (by simp) rfl rfl (fun h=>⟨_,rfl,h⟩)
     case gtr=>exact key (by simp) rfl rfl (fun h=>⟨_,rfl,h⟩)
     case geq=>exact key (by simp) rfl rfl (fun h=>⟨_,rfl,h⟩)
     case quo=>exact key (z:=cA (if b=0 then none else some (k.wrap (a.tdiv b))) fun r=>K (.v (.int k r))) (by simp) rfl rfl (fun h=>by
      simp only[bT,iC2]at h;obtain⟨q,d,h⟩:=h;split at d
      .cases d
      .rename_i h0;cases d;exact⟨_,by rw[iL2 h0],h⟩)
     case rem=>exact key (z:=cA (if b=0 then none else some (a.tmod b)) fun r=>K (.v (.int k r))) (by simp) rfl rfl (fun h=>by
      simp only[bT,iC2]at h;obtain⟨q,d,h⟩:=h;split at d
      .cases d
      .rename_i h0;cases d;exact⟨_,by rw[iL2 h0],h⟩)
     all_goals (first|exact aD hk|exact key (z:=none) (w:=none) (by simp) rfl rfl (fun h=>aD h))
    |_=>exact aD hk
   |string a=>
    cases b with
    |string b=>
     cases op
     case add=>
      have hk:cA (if a.size+b.size<=2^62 then some (a++b)else none) (fun r=>K (.v (.string r)))=some r:=hk;simp only[bT,iC2]at hk;obtain⟨q,d,hk⟩:=hk;split at d
      .rename_i h0
       cases d;exact⟨_,_,_,rfl,rfl,by simp only[Sim.binS];rw[iJ2 h0],hk⟩
      .cases d
     all_goals first|exact aD hk|exact⟨_,_,_,rfl,rfl,rfl,hk⟩
    |_=>exact aD hk
   |_=>exact aD hk
  |_=>exact aD hk
 |_=>exact aD hk
theorem gB1 {op:BinOp} (d:cM C n h lim s) (e:LR (RV C) xs ys) (hk:dF (.bin op) xs h n K=some r):eE C n h lim s (.bin op) ys K r:=by
 rcases xs with _|⟨x,_|⟨i,_|⟨x2,t⟩⟩⟩
 exact aD hk;exact aD hk;obtain⟨f,_,rfl,h1,h2⟩:=e.inv_cons;obtain⟨g,_,rfl,h3,h4⟩:=h2.inv_cons;rw[h4.inv_nil];obtain⟨a,b,c,rfl,rfl,hb,hk⟩:=Nq (K:=fun v=>K v h n) hk;rw[eQ h1,eQ h3];exact bG d (by simp[doOp,hb]) (.cl (.v c)) hk;exact aD hk
theorem gC1 {neg:Bool} (c:cM C n h lim s) (d:LR (RV C) xs ys) (hk:dF (.eqB neg) xs h n K=some r):eE C n h lim s (.eqB neg) ys K r:=by
 rcases xs with _|⟨x,_|⟨i,_|⟨x2,t⟩⟩⟩
 exact aD hk;exact aD hk;obtain⟨e,_,rfl,h1,h2⟩:=d.inv_cons;obtain⟨f,_,rfl,h3,h4⟩:=h2.inv_cons;rw[h4.inv_nil];cases x with
 |v xv=>
  cases xv with
  |bool a=>
   cases i with
   |v iv=>
    cases iv with
    |bool b=>
     rw[eQ h1,eQ h3];exact bG c rfl (.cl (.v _)) hk
    |_=>exact aD hk
   |_=>exact aD hk
  |_=>cases i with
   |v iv=>cases iv<;>exact aD hk
   |_=>exact aD hk
 |_=>cases i with
  |v iv=>cases iv<;>exact aD hk
  |_=>exact aD hk
 exact aD hk
theorem Aj:∀(ks:aA CK) (as i:aA PV) (K:Bool->aB R) (r:R) (c d:aA AV),Xi ks as i K=some r->LR (RV C) as c->LR (RV C) i d->
  ∃b,Sim.cellsEq ks c d=some b/\K b=some r/\c.length=ks.length/\d.length=ks.length
 |[],[],[],K,r,c,d,h,ha,hb=>by
  rw[ha.inv_nil,hb.inv_nil]
  exact⟨true,rfl,h,rfl,rfl⟩
 |k::ks,a::as,b::i,K,r,c,d,h,ha,hb=>by
  obtain⟨y,ys,rfl,h1,h2⟩:=ha.inv_cons
  obtain⟨z,zs,rfl,h3,h4⟩:=hb.inv_cons
  simp only[Xi]at h
  obtain⟨t,n,f,o,p⟩:=Aj ks as i _ r ys zs h h2 h4
  have fin:∀q:Bool,Sim.cellEq k y z=some q->K (q&&t)=some r->∃b,Sim.cellsEq (k::ks) (y::ys) (z::zs)=some b/\K b=some r/\(y::ys).length=(k::ks).length/\(z::zs).length=(k::ks).length:=by
   intro q l hK;refine⟨q&&t,?_,hK,by simp[o],by simp[p]⟩;simp only[Sim.cellsEq,l];cases q;rfl;simpa using n
  split at f;rename_i j x m g;rw[Lc]at f;by_cases e:j=m;rw[jR2 e,iT2]at f;rw[eQ h1,eQ h3]at fin ⊢;exact fin (x==g) (by simp[Sim.cellEq,e]) f
  grind
  rename_i x g;rw[eQ h1,eQ h3]at fin ⊢;exact fin (x==g) rfl f;rename_i x g;rw[eQ h1,eQ h3]at fin ⊢;exact fin (x==g) rfl f;exact aD f
 |[],_::_,_,_,_,_,_,h,_,_=>aD h
 |[],[],_::_,_,_,_,_,h,_,_=>aD h
 |_::_,[],_,_,_,_,_,h,_,_=>aD h
 |_::_,_::_,[],_,_,_,_,h,_,_=>aD h
theorem gD1 {neg:Bool} {ks:aA CK} (d:cM C n h lim s) (f:LR (RV C) xs ys) (hk:dF (.eqA neg ks) xs h n K=some r):eE C n h lim s (.eqA neg ks) ys K r:=by
 rcases xs with _|⟨x,_|⟨i,_|⟨x2,t⟩⟩⟩
 exact aD hk;exact aD hk;obtain⟨m,_,rfl,h1,h2⟩:=f.inv_cons;obtain⟨o,_,rfl,h3,h4⟩:=h2.inv_cons;rw[h4.inv_nil];cases x with
 |agg as=>
  cases i with
  |agg bs=>
   obtain⟨a,rfl,e⟩:=lJ h1;obtain⟨c,rfl,hb⟩:=lJ h3;obtain⟨b,g,j,k,l⟩:=Aj ks as bs _ r a c hk e hb;refine bG d ?_ (.cl (.v _)) j;simp only[doOp];rw[iJ2 ⟨k,l⟩,g]
  |_=>exact aD hk
 |_=>cases i<;>exact aD hk
 exact aD hk
theorem kB1 {op:UnOp} (a:cM C n h lim s) (b:LR (RV C) xs ys) (hk:dF (.un op) xs h n K=some r):eE C n h lim s (.un op) ys K r:=by
 rcases xs with _|⟨x,_|⟨x2,t⟩⟩
 exact aD hk;obtain⟨y,_,rfl,h1,h2⟩:=b.inv_cons;rw[h2.inv_nil];cases x with
 |v xv=>
  rw[eQ h1];cases op<;>cases xv<;>first|exact aD hk|exact bG a rfl (.cl (.v _)) hk
 |_=>cases op<;>exact aD hk
 exact aD hk
theorem Rv {k:IntKind} (a:cM C n h lim s) (b:LR (RV C) xs ys) (hk:dF (.convI k) xs h n K=some r):eE C n h lim s (.convI k) ys K r:=by
 rcases xs with _|⟨x,_|⟨x2,t⟩⟩
 exact aD hk;obtain⟨y,_,rfl,h1,h2⟩:=b.inv_cons;rw[h2.inv_nil];cases x with
 |v xv=>
  rw[eQ h1];cases xv<;>first|exact aD hk|exact bG a rfl (.cl (.v _)) hk
 |_=>exact aD hk
 exact aD hk
theorem Fp (b:ByteArray):RR (byteRows b) (Sim.byteRows b):=by
 unfold byteRows Sim.byteRows
 induction b.data.toList with
 |nil=>exact .nil
 |cons a as ih=>exact .cons (.cons (.v _) .nil) ih
theorem gE1 {t:TypeId} (a:cM C n h lim s) (c:LR (RV C) xs ys) (hk:dF (.s2b t) xs h n K=some r):eE C n h lim s (.s2b t) ys K r:=by
 rcases xs with _|⟨x,_|⟨x2,t⟩⟩
 exact aD hk;obtain⟨y,_,rfl,h1,h2⟩:=c.inv_cons;rw[h2.inv_nil];cases x with
 |v xv=>
  rw[eQ h1];cases xv with
  |string b=>exact bG a rfl (.cl (Fp b).is) hk
  |_=>exact aD hk
 |_=>exact aD hk
 exact aD hk
theorem Xn {f:Fn} {m:Nat} (g:cM C n h lim s) (e:LR (RV C) xs ys) (hk:dF (.mkfn f m) xs h n K=some r):eE C n h lim s (.mkfn f m) ys K r:=by
 cases f with
 |func f=>
  have hk:nZ m xs (fun a=>gE m xs fun b=>K (.fn f a b) h n)=some r:=by
   rcases xs with _|⟨a,_|⟨b,_|⟨c,t⟩⟩⟩<;>exact hk
  obtain⟨_,i⟩:=mL _ _ _ _ hk;obtain⟨_,j⟩:=dL _ _ _ _ i;have d:=e.take m;have hb:=e.drop m;refine bG g ?_ (.fn d.1 hb.1 d.2 hb.2) j;rcases ys with _|⟨a,_|⟨b,_|⟨c,t⟩⟩⟩<;>rfl
 |_=>rcases xs with _|⟨a,_|⟨b,_|⟨c,t⟩⟩⟩<;>exact aD hk
theorem Rw (a:cM C n h lim s) (c:LR (RV C) xs ys) (hk:dF .mkmap xs h n K=some r):eE C n h lim s .mkmap ys K r:=by
 rcases xs with _|⟨x,t⟩
 have hk:K (.map n) ((n,.mp [])::h) (n+1)=some r:=hk;rw[c.inv_nil];have b:=jH a (.atp s.n 0 0 1);obtain⟨d,f,g⟩:=qB a (po:=.mp []) (ao:=.map []) (ver:=0) (e:=0) (len:=1) ⟨a.lim,by omega,[],by rw[eD,iJ2 rfl],rfl,fun j x y h=>by simp at h⟩;exact⟨_,_,_,_,{v:=.map s.n,new:=some (.map [])},hk,rfl,.map (oG C n _),d,b,by omega,f,fun _=>g⟩;exact aD hk
theorem Xo {ty:TypeId} {e b:Nat} {zero:aA Value} (d:cM C n h lim s) (k:LR (RV C) xs ys) (hk:dF (.mksl ty e b zero) xs h n K=some r):eE C n h lim s (.mksl ty e b zero) ys K r:=by
 rcases xs with _|⟨x,_|⟨i,_|⟨x2,t⟩⟩⟩
 exact aD hk;exact aD hk;obtain⟨q,_,rfl,h1,h2⟩:=k.inv_cons;obtain⟨u,_,rfl,h3,h4⟩:=h2.inv_cons;rw[h4.inv_nil];cases x with
 |v xv=>
  cases xv with
  |int k1 l=>
   cases i with
   |v iv=>
    cases iv with
    |int k2 c=>
     rw[eQ h1,eQ h3];have hk:(bif fU ty then none else rI (zero.map .v) (fun z=>cA (oC l c z) fun rows=>K (.own n) ((n,.lst ty e true rows)::h) (n+1)))=some r:=hk;cases hfx:fU ty with
     |true=>rw[hfx]at hk;exact aD hk
     |false=>
     rw[hfx,jG2]at hk;have j:Ab ty=ty:=by simp[Ab,hfx]
     simp only[oZ,bT,iC2,oC]at hk;obtain⟨rows,g,hk⟩:=hk;split at g;rename_i h0;cases g;have f:=jH d (.atp s.n 0 e l.toNat);have a:l.toNat<=c.toNat:=by omega
     obtain⟨m,o,p⟩:=qB d (po:=.lst ty e true (List.replicate l.toNat (zero.map .v))) (ao:=.arr false ty e 0 (List.replicate c.toNat (Sim.zeroRow zero))) (ver:=0) (e:=e) (len:=l.toNat)
      ⟨d.lim,by omega,rfl,by simp,_,by rw[eD,iJ2 rfl,j],by
       rw[List.length_replicate,List.take_replicate,Nat.min_eq_left a];exact RR.replicate (LR.zeroP zero) _,by simpa using a,fun h=>by cases h⟩
     refine⟨_,_,_,_,{v:=.sl e s.n 0 0 l.toNat none,new:=some (.arr false ty e 0 (List.replicate c.toNat (Sim.zeroRow zero)))},hk,?_,.own (oG C n _),m,f,by omega,o,fun _=>p⟩;simp only[doOp,Sim.intOf];rw[iJ2 h0];cases g
    |_=>exact aD hk
   |_=>exact aD hk
  |_=>cases i with
   |v iv=>cases iv<;>exact aD hk
   |_=>exact aD hk
 |_=>cases i with
  |v iv=>cases iv<;>exact aD hk
  |_=>exact aD hk
 exact aD hk
end
end Go.P
namespace Go.P
open Go.Sim (AV AO Hp fA upd St IC IX Ex dV CK Wf Out doOp)
section
variable {R:Type} {C:Cx} {n:Nat} {h:aT} {lim:Nat} {s:Hp} {k:dV} {xs:List PV} {ys:List AV} {K:PV->aT->Nat->Option R} {r:R}
theorem Ci {lo hi:Bool} {len:Nat} {c:aA PV} {K:Int->Int->aB R} {a:aA AV} (b:LR (RV C) c a) (hk:vI lo hi len c K=some r):∃l q,Sim.bounds lo hi len a=some (l,q)/\K l q=some r:=by
 unfold vI at hk;split at hk;rw[b.inv_nil];exact⟨_,_,rfl,hk⟩;obtain⟨y,_,rfl,h1,h2⟩:=b.inv_cons;rw[h2.inv_nil,eQ h1];exact⟨_,_,rfl,hk⟩;obtain⟨y,_,rfl,h1,h2⟩:=b.inv_cons;rw[h2.inv_nil,eQ h1];exact⟨_,_,rfl,hk⟩;obtain⟨y,_,rfl,h1,h2⟩:=b.inv_cons;obtain⟨d,_,rfl,h3,h4⟩:=h2.inv_cons;rw[h4.inv_nil,eQ h1,eQ h3];exact⟨_,_,rfl,hk⟩;exact aD hk
theorem gF1 {e:Nat} {lo hi mx:Bool} (k:cM C n h lim s) (o:LR (RV C) xs ys) (hk:dF (.slc e lo hi mx) xs h n K=some r):eE C n h lim s (.slc e lo hi mx) ys K r:=by
 rcases xs with _|⟨x,bs⟩
 exact aD hk;obtain⟨y,a,rfl,h1,h2⟩:=o.inv_cons
 have hk:(bif mx then none else match(generalizing:=false) x with
  |.is e' rows=>bif Nat.beq e' e then vI lo hi rows.length bs (fun l r=>cA (lQ rows l r) fun rows=>K (.is e rows) h n)else none
  |_=>none)=some r:=by
  rcases bs with _|⟨b,_|⟨c,t⟩⟩<;>exact hk
 cases mx with
 |true=>exact aD hk
 |false=>
  rw[jG2]at hk;cases x with
  |is e' rows=>
   simp only[bK]at hk;by_cases m:e'=e;subst m;rw[jR2 rfl,iT2]at hk;obtain⟨l,q,hb,hk⟩:=Ci h2 hk;simp only[bT,iC2,lQ]at hk;obtain⟨j,f,hk⟩:=hk;split at f;rename_i h0;cases f;rcases Cf h1 with⟨rows',rfl,hr⟩|⟨rfl,hy⟩
   have hlen:=hr.1;refine bG k ?_ (.cl ((hr.drop l.toNat).take (q.toNat-l.toNat)).is) hk;have d:Sim.bounds lo hi rows'.length a=some (l,q):=by rw[<-hlen];exact hb
   have:Sim.sliceOp (Sim.look s.h) e' lo hi false (.is e' rows'::a)=some (.is e' ((rows'.drop l.toNat).take (q.toNat-l.toNat))):=by
    simp only[Sim.sliceOp];simp only[iQ2,jS2,d];rw[iJ2 ⟨by trivial,h0.1,h0.2.1,by rw[<-hlen];exact h0.2.2⟩]
   rcases a with _|⟨b,_|⟨c,t⟩⟩<;>simp only[doOp,this,jC2];have g:l=0:=by simp at h0;omega
   have i:q=0:=by simp at h0;omega
   subst g;subst i;have d:Sim.bounds lo hi 0 a=some (0,0):=hb
   have:Sim.sliceOp (Sim.look s.h) e' lo hi false (y::a)=some y:=by
    subst hy;simp[Sim.sliceOp,d]
   refine bG (y:=y) k ?_ ?_ hk;rcases a with _|⟨b,_|⟨c,t⟩⟩<;>simp only[doOp,this,jC2]
   grind
   cases f
   grind
  |_=>exact aD hk
theorem Ak {k:CK} {a b:PV} {a' b':AV} (c:RC false a a') (hb:RC false b b') {q:Bool} (h:oX k a b=some q):Sim.cellEq k a' b'=some q:=by
 unfold oX at h;split at h;cases c;cases hb;exact h;cases c;cases hb;exact h;cases c;cases hb;exact h;cases h
theorem qE:∀{ks:aA CK} {as e:aA PV} {c d:aA AV},LR (RC false) as c->LR (RC false) e d->∀{q:Bool},iZ ks as e=some q->Sim.cellsEq ks c d=some q
 |[],[],[],c,d,ha,hb,q,h=>by rw[ha.inv_nil,hb.inv_nil];exact h
 |k::ks,a::as,b::e,c,d,ha,hb,q,h=>by
  obtain⟨y,ys,rfl,h1,h2⟩:=ha.inv_cons
  obtain⟨z,zs,rfl,h3,h4⟩:=hb.inv_cons
  simp only[iZ]at h
  simp only[Sim.cellsEq]
  split at h
  rename_i he;rw[Ak h1 h3 he];exact qE h2 h4 h
  rename_i he;rw[Ak h1 h3 he];exact h
  cases h
 |[],_::_,_,_,_,_,_,_,h=>by cases h
 |[],[],_::_,_,_,_,_,_,h=>by cases h
 |_::_,[],_,_,_,_,_,_,h=>by cases h
 |_::_,_::_,[],_,_,_,_,_,h=>by cases h
theorem Iy {p:Bool} {cs:aA PV} {y:AV} (h:RC p (.agg cs) y):∃cs',y=.agg cs'/\LR (RC false) cs cs':=by
 cases h with|agg a b=>exact⟨_,rfl,a,b⟩
theorem Fq {agg:Bool} {ks:aA CK} {a b:PV} {a' b':AV} (c:RC false a a') (hb:RC false b b') {q:Bool} (h:pY agg ks a b=some q):Sim.keyEq agg ks a' b'=some q:=by
 unfold pY at h;unfold Sim.keyEq;cases agg with
 |true=>
  simp only[jJ2]at h ⊢;split at h;obtain⟨x,rfl,h1⟩:=Iy c;obtain⟨y,rfl,h2⟩:=Iy hb;simp only;split at h;rename_i hc;rw[iJ2 ⟨by rw[<-h1.1];exact hc.1,by rw[<-h2.1];exact hc.2⟩];exact qE h1 h2 h;cases h;cases h
 |false=>
  simp only[iQ2,jS2]at h ⊢;exact qE (.cons c .nil) (.cons hb .nil) h
theorem ER.nil:ER [] []:=⟨rfl,fun j x y h=>by simp at h⟩
theorem ER.inv_cons {x:PV×PV} {es:aA (PV×PV)} {es':aA (AV×AV)} (h:ER (x::es) es'):∃y t,es'=y::t/\RC false x.1 y.1/\RC false x.2 y.2/\ER es t:=by
 cases es' with
 |nil=>have:=h.1;simp at this
 |cons y t=>exact⟨y,t,rfl,(h.2 0 x y rfl rfl).1,(h.2 0 x y rfl rfl).2,by have:=h.1;simpa using this,fun j a b c hb=>h.2 (j+1) a b (by simpa using c) (by simpa using hb)⟩
theorem vK {agg:Bool} {ks:aA CK} {k:PV} {k':AV} (hk:RC false k k'):∀{es:aA (PV×PV)} {es':aA (AV×AV)} {i:Nat} {o:aB (Nat×PV)},ER es es'->rM agg ks k es i=some o->
  ∃o',Sim.findKey agg ks k' es' i=some o'/\((o=none/\o'=none)\/∃j x y,o=some (j,x)/\o'=some (j,y)/\RC false x y)
 |[],es',i,o,he,h=>by
  have:es'=[]:=by have:=he.1;simpa using this.symm
  subst this
  simp only[rM,iK2]at h
  exact⟨none,rfl,.inl ⟨h.symm,rfl⟩⟩
 |(a,x)::es,es',i,o,he,h=>by
  obtain⟨⟨b,y⟩,t,rfl,h1,h2,h3⟩:=he.inv_cons
  simp only[rM]at h
  simp only[Sim.findKey]
  split at h
  rename_i c
  rw[Fq hk h1 c]
  cases h
  exact⟨_,rfl,.inr ⟨i,x,y,rfl,rfl,h2⟩⟩
  rename_i c
  rw[Fq hk h1 c]
  exact vK hk h3 h
  cases h
theorem lS {agg:Bool} {ks:aA CK} {k:PV} {k':AV} (hk:RC false k k') (h:tE agg ks k=true):Sim.keyOK agg ks k'=true:=by
 unfold tE at h;split at h;obtain⟨cs',rfl,hl⟩:=Iy hk;simp only[iD2,jZ2]at h;simp[Sim.keyOK,<-hl.1,h.2];cases hk;simp only[iX2]at h;subst h;rfl;cases h
theorem Al {x:PV} {y:AV} (h:RV C x y):∀{d:Nat},dA d x=true->RC false x y:=by
 induction h with
 |cl h=>intro d _;exact h
 |fn h1 h2 v1 v2 i1 i2=>
  intro d hd;cases d with
  |zero=>simp[dA]at hd
  |succ d=>
   simp only[dA,iD2,iM2]at hd;exact .fn h1 h2 (fun j x y a b=>i1 j x y a b (hd.1 x (iN2 a))) (fun j x y a b=>i2 j x y a b (hd.2 x (iN2 a)))
 |agg hl hc ih=>
  intro d hd;cases d with
  |zero=>simp[dA]at hd
  |succ d=>
   simp only[dA,iM2]at hd;exact .agg hl (fun j x y a b=>ih j x y a b (hd x (iN2 a)))
 |tup hl hc ih=>
  intro d hd;cases d with
  |zero=>simp[dA]at hd
  |succ d=>
   simp only[dA,iM2]at hd;exact .tup hl (fun j x y a b=>ih j x y a b (hd x (iN2 a)))
 |_=>intro d hd;cases d<;>simp[dA]at hd
theorem Nr {agg ok:Bool} {ks:aA CK} {zero:AV} (g:cM C n h lim s) (A:LR (RV C) xs ys) (hk:dF (.lookup agg ks zero ok) xs h n K=some r):eE C n h lim s (.lookup agg ks zero ok) ys K r:=by
 rcases xs with _|⟨m,_|⟨k,_|⟨x2,t⟩⟩⟩
 exact aD hk;exact aD hk;obtain⟨w,_,rfl,h1,h2⟩:=A.inv_cons;obtain⟨B,_,rfl,h3,h4⟩:=h2.inv_cons;rw[h4.inv_nil];cases hz:zero with
 |v z=>
  subst hz
  have key:∀(es:aA (PV×PV)) (es':aA (AV×AV)),ER es es'->Sim.entsOf (Sim.look s.h) w=some es'->
    (bif dA 2 k then(bif ok then cA (rN agg ks (.v z) k es) (fun r=>K (.tup [r.1,.v (.bool r.2)]) h n)else cA (pZ agg ks (.v z) k es) fun r=>K r h n)else none)=some r->eE C n h lim s (.lookup agg ks (.v z) ok) [w,B] K r:=by
   intro es es' he f hk;cases hcl:dA 2 k with
   |false=>rw[hcl]at hk;exact aD hk
   |true=>
   rw[hcl,iT2]at hk;have b:=Al h3 hcl;cases ok with
   |true=>
    simp only[iT2,bT,iC2,rN]at hk;obtain⟨q,d,hk⟩:=hk;split at d;rename_i c;simp only[iE2]at d;obtain⟨o,p,rfl⟩:=d;obtain⟨o',i,u⟩:=vK b he p;rcases u with⟨rfl,rfl⟩|⟨j,x,y,rfl,rfl,hxy⟩
    refine bG g (y:=.tup [.v z,.v (.bool false)]) ?_ ?_ hk;simp[doOp,lS b c,f,i];exact .tup rfl (LR.cons (.cl (.v z)) (.cons (.cl (.v _)) .nil)).2;refine bG g (y:=.tup [y,.v (.bool true)]) ?_ ?_ hk;simp[doOp,lS b c,f,i];exact .tup rfl (LR.cons (.cl hxy) (.cons (.cl (.v _)) .nil)).2;cases d
   |false=>
    simp only[jG2,bT,iC2,pZ]at hk;obtain⟨q,d,hk⟩:=hk;split at d;rename_i c;simp only[iE2]at d;obtain⟨o,p,rfl⟩:=d;obtain⟨o',i,u⟩:=vK b he p;rcases u with⟨rfl,rfl⟩|⟨j,x,y,rfl,rfl,hxy⟩
    refine bG g (y:=.v z) ?_ (.cl (.v z)) hk;simp[doOp,lS b c,f,i];refine bG g (y:=y) ?_ (.cl hxy) hk;simp[doOp,lS b c,f,i];cases d
  unfold dF at hk;simp only at hk;cases m with
  |im es=>
   obtain⟨es',rfl,he⟩:=dS1 h1;exact key es es' he rfl hk
  |map j=>
   simp only[eK,iC2]at hk;obtain⟨ob,hg,hk⟩:=hk;cases ob with
   |mp es=>
    obtain⟨id,ver,e,len,l,rfl⟩:=tK h1;obtain⟨_,es',f,he⟩:=Fo g hg l;exact key es es' he.er (by simp[Sim.entsOf,f]) hk
   |_=>exact aD hk
  |zm es=>
   rcases dT1 h1 with⟨id,es',rfl,l,he⟩|⟨rfl,rfl⟩
   exact key es es' he.er (by simp[Sim.entsOf,(g.hr.zr id _ l).1]) hk;exact key [] [] ⟨rfl,fun j x y a=>by simp at a⟩ rfl hk
  |_=>exact aD hk
 |_=>subst hz;exact aD hk
 exact aD hk
theorem dV1 {x:PV} {y:AV} (h:RV C x y) (hp:Is x=true):RK x y:=by
 cases x with
 |agg cs=>
  obtain⟨cs',rfl,hl⟩:=lJ h;exact .inr ⟨cs,cs',rfl,rfl,hl.plain hp⟩
 |_=>exact .inl (h.plain hp)
theorem Rx {agg:Bool} {ks:aA CK} (D:cM C n h lim s) (N:LR (RV C) xs ys) (hk:dF (.mapup agg ks) xs h n K=some r):eE C n h lim s (.mapup agg ks) ys K r:=by
 rcases xs with _|⟨m,_|⟨k,_|⟨x,_|⟨x2,t⟩⟩⟩⟩
 exact aD hk;exact aD hk;exact aD hk;obtain⟨S,_,rfl,h1,h2⟩:=N.inv_cons;obtain⟨w,_,rfl,h3,h4⟩:=h2.inv_cons;obtain⟨y,_,rfl,h5,J⟩:=h4.inv_cons;rw[J.inv_nil];cases m with
 |map j=>
  have hk:hK h j (fun ob=>match ob with
   |.mp es=>bif Is k&&Is x then cA (xH agg ks k x es) fun es=>gF h j (.mp es) fun h=>K .undef h n else none
   |_=>none)=some r:=hk
  simp only[eK,iC2]at hk;obtain⟨ob,hg,hk⟩:=hk;cases ob with
  |mp es=>
   by_cases g:(Is k&&Is x)=true;simp only[g,iT2,bT,iC2,xH]at hk;simp only[iD2]at g;obtain⟨d,hp,hk⟩:=hk;have H:=dN _ _ _ _ _ hk;obtain⟨id,ver,e,len,z,rfl⟩:=tK h1;obtain⟨f,es',B,he⟩:=Fo D hg z;have F:=(D.hr.lt (by rw[hg];simp) z).2;have G:=dV1 h3 g.1;have O:=dV1 h5 g.2;have q:=G.rc;split at hp;rename_i u;simp only[iE2]at hp;obtain⟨o,M,rfl⟩:=hp;obtain⟨o',q1,q2⟩:=vK q he.er M
   have fin:∀(d:aA (PV×PV)) (c:aA (AV×AV)),EM d c->K .undef (eI h j (.mp d)) n=some r->doOp (Sim.look s.h) lim s.n (.mapup agg ks) [.map id,w,y]=some {v:=.undef,up:=some (id,.map c)}->eE C n h lim s (.mapup agg ks) [.map id,w,y] K r:=by
    intro d c E A hd;obtain⟨P,R⟩:=qC D (po':=.mp d) (ao:=.map c) hg z ⟨f,F,c,by rw[Sim.look_upd];simp[B],E⟩ rfl;exact⟨_,_,_,_,_,A,hd,.undef,P,.refl _,iH2 _,R,fun L=>by cases L⟩
   rcases q2 with⟨rfl,rfl⟩|⟨i,x0,y0,rfl,rfl,hxy⟩
   refine fin _ (es'++[(w,y)]) ⟨by simp[he.1],fun i a b p hb=>?_⟩ H ?_;rw[jY2]at p hb;rw[<-he.1]at hb;split at p;rename_i hi;rw[iJ2 hi]at hb;exact he.2 i a b p hb
   grind
   simp only[doOp,B];rw[iJ2 ⟨f,lS q u⟩,q1];refine fin _ (es'.set i (w,y)) ⟨by simp[he.1],fun l a b p hb=>?_⟩ H ?_;rw[jD2]at p hb;split at p
   grind
   rename_i hi;rw[iL2 hi]at hb;exact he.2 l a b p hb;simp only[doOp,B];rw[iJ2 ⟨f,lS q u⟩,q1];cases hp
   grind
  |_=>exact aD hk
 |_=>exact aD hk
 exact aD hk
theorem gG1 {kd:Nat} (a:cM C n h lim s) (i:LR (RV C) xs ys) (hk:dF (.len kd) xs h n K=some r):eE C n h lim s (.len kd) ys K r:=by
 rcases xs with _|⟨x,_|⟨x2,t⟩⟩
 exact aD hk;obtain⟨y,_,rfl,h1,h2⟩:=i.inv_cons;rw[h2.inv_nil];unfold dF at hk;simp only[bK]at hk;split at hk;rename_i e rows;by_cases c:kd=0;subst c;simp only[kV2,iT2,bT,iF2]at hk;rcases Ld h1 with⟨rows',rfl,hr⟩|⟨rfl,rfl|rfl⟩
 exact bG a (by simp[doOp,<-hr.1]) (.cl (.v _)) hk;exact bG a rfl (.cl (.v _)) hk;exact bG a rfl (.cl (.v _)) hk
 grind
 rename_i k;by_cases c:kd=0;subst c;simp only[kV2,iT2,eK,iC2]at hk;obtain⟨ob,hg,hk⟩:=hk;cases ob with
 |lst ty e g rows=>
  simp only[bT,iF2]at hk;rcases gV h1 with⟨id,ver,f,len,b,rfl⟩|⟨b,hy⟩
  obtain⟨_,_,hlen,_⟩:=iJ a hg b;subst hlen;exact bG a rfl (.cl (.v _)) hk;have:=jO a hg b;subst this;rcases hy with rfl|rfl;exact bG a rfl (.cl (.v _)) hk;exact bG a rfl (.cl (.v _)) hk
 |lz ty e dp rows=>
  simp only[bT,iF2]at hk;rcases gV h1 with⟨id,ver,f,len,b,rfl⟩|⟨b,hy⟩
  obtain⟨_,_,_,hlen,_⟩:=uU a hg b;subst hlen;exact bG a rfl (.cl (.v _)) hk;have:=tM a hg b;subst this;rcases hy with rfl|rfl;exact bG a rfl (.cl (.v _)) hk;exact bG a rfl (.cl (.v _)) hk
 |fl fs=>
  rcases gV h1 with⟨id,ver,f,len,b,rfl⟩|⟨b,hy⟩
  obtain⟨_,_,hlen,_⟩:=Rq a hg b;subst hlen;exact bG a rfl (.cl (.v _)) hk;exact(Rr a hg b).elim
 |_=>exact aD hk
 grind
 rename_i d e rows;by_cases c:kd=0;subst c;simp only[kV2,iT2,bT,iF2]at hk;rcases Ah (Ag h1)with(⟨rows',rfl,hr⟩|⟨rfl,rfl⟩)|⟨d',id,ver,ty,els,_,rfl,_,_,_⟩
 exact bG a (by simp[doOp,<-hr.1]) (.cl (.v _)) hk;exact bG a rfl (.cl (.v _)) hk;exact bG a rfl (.cl (.v _)) hk
 grind
 by_cases c:kd=0;subst c;rw[eQ h1];exact bG a rfl (.cl (.v _)) hk
 grind
 by_cases c:kd=1;subst c;rw[eQ h1];exact bG a rfl (.cl (.v _)) hk
 grind
 exact aD hk;exact aD hk
theorem gH1 {i:Nat} (b:cM C n h lim s) (d:LR (RV C) xs ys) (hk:dF (.ext i) xs h n K=some r):eE C n h lim s (.ext i) ys K r:=by
 rcases xs with _|⟨x,_|⟨x2,t⟩⟩
 exact aD hk;obtain⟨y,_,rfl,h1,h2⟩:=d.inv_cons;rw[h2.inv_nil];cases x with
 |tup vs=>
  have hk:gE i vs (fun vs=>match vs with
   |v::_=>K v h n
   |[]=>none)=some r:=hk
  obtain⟨e,a⟩:=dL _ _ _ _ hk;obtain⟨cs',rfl,hl⟩:=Iw h1;cases hd:vs.drop i with
  |nil=>rw[hd]at a;exact aD a
  |cons c t=>
   rw[hd]at a;obtain⟨y,hy,hv⟩:=hl.get (tL hd);exact bG b (by simp[doOp,hy]) hv a
 |_=>exact aD hk
 exact aD hk
end
end Go.P
namespace Go.P
open Go.Sim (AV AO Hp fA upd St IC IX Ex dV CK Wf Out doOp)
theorem rS {α:Type}:∀(l:aA α) (o:Nat) (cs:aA α),o+cs.length<=l.length->Sim.setL l o cs=l.take o++cs++l.drop (o+cs.length)
 |[],o,cs,h=>by
  have h1:cs=[]:=by
   cases cs with
   |nil=>rfl
   |cons a as=>simp at h
  subst h1;simp[Sim.setL]
 |a::l,0,[],h=>by simp[Sim.setL]
 |a::l,0,c::cs,h=>by
  simp only[Sim.setL,List.set_cons_zero];rw[lR,rS l 0 cs (by simp at h ⊢;omega)];simp
 |a::l,o+1,cs,h=>by
  rw[lR,rS l o cs (by simp at h ⊢;omega)];simp[Nat.add_right_comm]
theorem tN (e:Nat):∀(m i:Nat) (cells xs:aA AV) (a:aA (aA AV)),cells.length=(i+m)*e->xs.length=m->a.length=m->
  (∀(j:Nat) (x:AV),xs[j]? =some x->∃cs,x.cells=some cs/\cs.length=e/\a[j]? =some cs)->
  Sim.fillParts cells ((List.range' i m).map fun i=>(i*e,e)) xs=some (cells.take (i*e)++a.flatten)
 |0,i,cells,xs,a,h1,h2,h3,h4=>by
  have g:xs=[]:=by simpa using h2
  have e2:a=[]:=by simpa using h3
  subst g;subst e2
  simp only[List.range'_zero,lR2,Sim.fillParts,List.flatten_nil,kT2]
  rw[jT2 (by rw[h1];simp)]
 |m+1,i,cells,xs,a,h1,h2,h3,h4=>by
  match xs,a,h2,h3 with
  |x::xs,cs0::a,h2,h3=>
   obtain⟨cs,k,d,f⟩:=h4 0 x rfl
   simp at f
   subst f
   simp only[List.range'_succ,kF2,Sim.fillParts,k]
   have b:i*e+e<=cells.length:=by
    rw[h1];have:(i+1)*e<=(i+(m+1))*e:=jI2 _ (by omega);rw[kE2,Nat.one_mul]at this;exact this
   rw[iJ2 ⟨d,b⟩];have hs:=rS cells (i*e) cs0 (by rw[d];exact b)
   have hlen:(Sim.setL cells (i*e) cs0).length=cells.length:=by
    rw[hs];simp[d];omega
   rw[tN e m (i+1) _ xs a (by rw[hlen,h1];congr 1;omega) (by simpa using h2) (by simpa using h3) (fun j x h=>by
    obtain⟨c,q1,q2,q3⟩:=h4 (j+1) x (by simpa using h);exact⟨c,q1,q2,by simpa using q3⟩)]
   congr 1;rw[hs,lP2,<-List.append_assoc];congr 1
   have hl:(cells.take (i*e)++cs0).length=(i+1)*e:=by
    simp[d,kE2];omega
   rw[List.take_append_of_le_length (by rw[hl];exact iH2 _),jT2 (by rw[hl];exact iH2 _)]
theorem Ry (e:Nat):∀(a:aA (aA AV)),(∀c∈a,c.length=e)->(List.range a.length).map (fun i=>(a.flatten.drop (i*e)).take e)=a
 |[],_=>rfl
 |c::a,h=>by
  have hc:=h c (by simp)
  have ih:=Ry e a (fun c hc=>h c (by simp[hc]))
  rw[jN2,List.range_succ_eq_map,kF2,List.map_map]
  simp only[Nat.zero_mul,jX2,lP2]
  rw[List.take_append_of_le_length (by omega),jT2 (by omega)]
  congr 1
  refine Eq.trans (List.map_congr_left fun i _=>?_) ih
  simp only[Function.comp]
  rw[kB2,kM2,<-hc,<-kX2,List.drop_left]
theorem xT (l:aA AV):∀(m:aA Nat),(m.flatMap fun _=>l).length=m.length*l.length
 |[]=>by simp
 |a::m=>by
  rw[kG2,iP2,xT l m,jN2,kB2,kM2]
section
variable {R:Type} {C:Cx} {n:Nat} {h:aT} {lim:Nat} {s:Hp} {k:dV} {xs:List PV} {ys:List AV} {K:PV->aT->Nat->Option R} {r:R}
theorem Rz (a b:Nat):a<=(bif Nat.blt a b then b else a)/\b<=(bif Nat.blt a b then b else a):=by
 by_cases h:a<b;have hb:Nat.blt a b=true:=by simpa using h
 rw[hb];simp only[iT2];omega;have hb:Nat.blt a b=false:=by cases hb:Nat.blt a b with|false=>rfl|true=>exact absurd (by simpa using hb) h
 rw[hb];simp only[jG2];omega
theorem Sa {x:PV} {y:AV} {d:Nat} {b:PV} (h:RV C x y) (hc:Rf x=some (d,b)):RZ C.z d b y:=by
 have pl:∀{x:PV},RV C x y->eT x=true->RC true x y:=fun a hp=>by
  have:=(LR.cons a .nil).plain (xs:=[_]) (by simpa using hp);exact this.head
 unfold Rf at hc;split at hc;cases hc;exact Ag h;rename_i a;cases hp:eT x with
 |true=>rw[hp]at hc;cases hc;exact RZ.of (pl h hp)
 |false=>rw[hp]at hc;cases hc
theorem Am:∀{cs:aA PV} {cs':aA AV} {d:Nat} {ys:aA PV},LR (RV C) cs cs'->xI cs=some (d,ys)->LR (RZ C.z d) ys cs'
 |[],cs',d,ys,h,hc=>by
  rw[h.inv_nil];cases hc;exact .nil
 |x::xs,cs',d,ys,h,hc=>by
  obtain⟨y,e,rfl,h1,h2⟩:=h.inv_cons
  unfold xI at hc
  split at hc
  rename_i a f b xs' c e2
  cases hc
  have m:=Rz a b
  exact .cons (RZ.up m.1 (Sa h1 c)) ((Am h2 e2).mono fun _ _ h=>RZ.up m.2 h)
  cases hc
theorem kC1 {R:Type} (d:Nat) (K:Nat->aB R):fD d K=K d:=by
 unfold fD;split<;>rfl
theorem uW (e:Nat):∀(xs:aA PV) (K:Nat->aA (aA PV)->aB R) (r:R),xJ e xs K=some r->∃dp rows,K dp rows=some r/\rows.length=xs.length/\
  ∀(j:Nat) (x:PV),xs[j]? =some x->∃cs,dU x=some cs/\∃d ys,xI cs=some (d,ys)/\ys.length=e/\d<=dp/\rows[j]? =some ys
 |[],K,r,h=>⟨0,[],h,rfl,fun j x a=>by simp at a⟩
 |x::xs,K,r,h=>by
  simp only[xJ,jU,kC1,iC2]at h
  obtain⟨cs,h1,h2⟩:=h
  split at h2
  rename_i d ys f
  cases hb:Nat.beq ys.length e with
  |false=>rw[hb]at h2;cases h2
  |true=>
   rw[hb,iT2]at h2
   obtain⟨dp,rows,g,i,k⟩:=uW e xs _ r h2
   have m:=Rz d dp
   refine⟨_,_,g,by simp[i],fun j l a=>?_⟩
   cases j with
   |zero=>simp at a;subst a;exact⟨cs,h1,d,ys,f,iW2 hb,m.1,rfl⟩
   |succ j=>
    simp at a
    obtain⟨cs',q1,c,b,q2,q3,q4,q5⟩:=k j l a
    exact⟨cs',q1,c,b,q2,q3,jF2 q4 m.2,by simpa using q5⟩
  cases h2
theorem Iz {ty:TypeId} {e len:Nat} {zero:aA Value} {parts:aA Nat} (J:cM C n h lim s) (o:LR (RV C) xs ys) (hk:dF (.buildSl ty e len zero parts) xs h n K=some r):eE C n h lim s (.buildSl ty e len zero parts) ys K r:=by
 have hk:(bif Nl 0 parts&&(Nat.beq zero.length e&& !(fU ty))then(bif Nat.beq parts.length len then bif xs.all Rg then rO e xs fun rows=>bif Nat.beq rows.length len then K (.own n) ((n,.lst ty e false rows)::h) (n+1)else none else xJ e xs fun dp rows=>bif Nat.beq rows.length len then K (.own n) ((n,.lz ty e dp rows)::h) (n+1)else none else none)else none)=some r:=by
  rcases xs with _|⟨a,_|⟨b,_|⟨c,t⟩⟩⟩<;>exact hk
 by_cases hc:(Nl 0 parts&&(Nat.beq zero.length e&& !(fU ty)))=true;rw[hc,iT2]at hk;simp only[iD2,bK,iO2]at hc hk;obtain⟨c1,c2,p⟩:=hc;have P:Ab ty=ty:=by simp only[iX2]at p;simp[Ab,p]
 have hfx:fU ty=false:=by simpa using p
 by_cases c3:parts.length=len;rw[jR2 c3,iT2]at hk
 have M:∃(po:gD) (rows:aA (aA PV)) (Q:PV->AV->Prop),K (.own n) ((n,po)::h) (n+1)=some r/\rows.length=len/\rows.length=xs.length/\
   (∀(j:Nat) (x:PV),xs[j]? =some x->∃cs,dU x=some cs/\∃r,rows[j]? =some r/\r.length=e/\∀cs',LR (RV C) cs cs'->LR Q r cs')/\
   ∀f:aA (aA AV),rows.length=f.length->(∀(i:Nat) (r:aA PV) (r':aA AV),rows[i]? =some r->f[i]? =some r'->LR Q r r')->
    iO (ext C n (.atp s.n 0 e len)) (Sim.look (.ob s.n (.arr false ty e 0 f)::s.h)) lim (s.n+1) po (.atp s.n 0 e len):=by
  cases hpl:xs.all Rg with
  |true=>
   rw[hpl,iT2]at hk;obtain⟨rows,m,E,F⟩:=rR e xs _ r hk;by_cases c4:rows.length=len;rw[jR2 c4,iT2]at m;refine⟨_,rows,RC true,m,c4,E,fun j x o=>?_,fun f hl u=>?_⟩;obtain⟨cs,q1,q2,q3,q4⟩:=F j x o;exact⟨cs,q1,cs,q4,q2,fun cs' h=>h.plain q3⟩;exact⟨J.lim,by omega,rfl,c4.symm,f,by rw[eD,iJ2 rfl,P],by rw[jT2 (by rw[hl];exact iH2 _)];exact⟨hl,u⟩,by rw[hl];exact iH2 _,fun _=>hl.symm⟩;rw[jV2 c4]at m;exact aD m
  |false=>
   rw[hpl,jG2]at hk;obtain⟨dp,rows,m,E,F⟩:=uW e xs _ r hk;by_cases c4:rows.length=len;rw[jR2 c4,iT2]at m;refine⟨_,rows,RZ C.z dp,m,c4,E,fun j x o=>?_,fun f hl u=>?_⟩;obtain⟨cs,q1,d,T,q2,q3,q4,q5⟩:=F j x o;exact⟨cs,q1,T,q5,q3,fun cs' h=>(Am h q2).mono fun _ _ h=>RZ.up q4 h⟩;exact⟨J.lim,by omega,rfl,c4.symm,hfx,f,by rw[eD,iJ2 rfl],hl,u⟩;rw[jV2 c4]at m;exact aD m
 obtain⟨po,rows,Q,m,c4,E,F,R⟩:=M;have hp:=Ae 0 parts c1;rw[c3]at hp;subst hp
 have D:∀(j:Nat) (x:AV),ys[j]? =some x->∃cs,x.cells=some cs/\cs.length=e/\∃r,rows[j]? =some r/\LR Q r cs:=by
  intro j y hy;have A:j<xs.length:=by rw[o.1];exact(iG2.1 hy).1
  obtain⟨cs,q1,G,q2,q3,q4⟩:=F j xs[j] (by simp);obtain⟨cs',p1,p2⟩:=oF (o.2 j xs[j] y (by simp) hy) q1;have:=q4 cs' p2;exact⟨cs',p1,by rw[<-this.1];exact q3,G,q2,this⟩
 have q:∃f:aA (aA AV),f.length=ys.length/\∀(j:Nat) (x:AV),ys[j]? =some x->∃cs,x.cells=some cs/\cs.length=e/\f[j]? =some cs/\∃r,rows[j]? =some r/\LR Q r cs:=by
  refine⟨ys.map fun y=>(y.cells).getD [],by simp,fun j y hy=>?_⟩;obtain⟨cs,p1,p2,p3⟩:=D j y hy;exact⟨cs,p1,p2,by simp[hy,p1],p3⟩
 obtain⟨f,H,S⟩:=q;have g:ys.length=len:=by rw[<-o.1,<-E,c4]
 have V:(Sim.zeroRow zero).length=e:=by simp[Sim.zeroRow,c2]
 have L:((List.range len).flatMap fun _=>Sim.zeroRow zero).length=len*e:=by
  rw[xT,V,List.length_range]
 have l:=tN e len 0 ((List.range len).flatMap fun _=>Sim.zeroRow zero) ys f (by rw[L];simp) g (by rw[H,g]) (fun j x o=>by
  obtain⟨cs,p1,p2,p3,_⟩:=S j x o;exact⟨cs,p1,p2,p3⟩)
 simp only[Nat.zero_mul,List.take_zero,List.nil_append]at l
 have w:∀c∈f,c.length=e:=by
  intro c hc;obtain⟨j,U⟩:=jH2.1 hc;have A:j<ys.length:=by rw[<-H];exact(iG2.1 U).1
  obtain⟨cs,p1,p2,p3,_⟩:=S j ys[j] (by simp);rw[U]at p3;cases p3;exact p2
 have k:=Ry e f w;rw[H,g]at k
 have u:∀(j:Nat) (G:aA PV) (r1:aA AV),rows[j]? =some G->f[j]? =some r1->LR Q G r1:=by
  intro j G r1 O B;have A:j<ys.length:=by rw[<-H];exact(iG2.1 B).1
  obtain⟨cs,p1,p2,p3,r2,p4,p5⟩:=S j ys[j] (by simp);rw[B]at p3;cases p3;rw[O]at p4;cases p4;exact p5
 have N:=jH J (.atp s.n 0 e len);obtain⟨W,X,Y⟩:=qB J (po:=po) (ao:=.arr false ty e 0 f) (ver:=0) (e:=e) (len:=len) (R f (by rw[c4,H,g]) u);refine⟨_,_,_,_,{v:=.sl e s.n 0 0 len none,new:=some (.arr false ty e 0 f)},m,?_,.own (oG C n _),W,N,by omega,X,fun _=>Y⟩
 have:doOp (Sim.look s.h) lim s.n (.buildSl ty e len zero (List.range' 0 len)) ys=(Sim.fillParts ((List.range len).flatMap fun _=>Sim.zeroRow zero) ((List.range' 0 len).map fun i=>(i*e,e)) ys).map fun cs=>
  {v:=.sl e s.n 0 0 len none,new:=some (.arr false ty e 0 ((List.range len).map fun i=>(cs.drop (i*e)).take e))}:=by
  rcases ys with _|⟨a,_|⟨b,_|⟨c,t⟩⟩⟩<;>rfl
 rw[this,l];simp only[jC2];rw[k];rw[jV2 c3]at hk;exact aD hk;simp only[Bool.not_eq_true]at hc;rw[hc]at hk;exact aD hk
theorem xU {i:Int}:∀{m:Nat} {K:Nat->aB R} {r:R},Fh i m K=some r->∃j,j<m/\i=(j:Int)/\K j=some r
 |0,K,r,h=>by unfold Fh at h;exact aD h
 |m+1,K,r,h=>by
  unfold Fh at h
  rw[mJ]at h
  split at h
  rename_i e;exact⟨m,by omega,by simpa using e,h⟩
  obtain⟨j,h1,h2,h3⟩:=xU h;exact⟨j,by omega,h2,h3⟩
theorem Xp {len esz:Nat} (f:cM C n h lim s) (g:LR (RV C) xs ys) (hk:dF (.iadA len esz) xs h n K=some r):eE C n h lim s (.iadA len esz) ys K r:=by
 rcases xs with _|⟨p,_|⟨i,_|⟨x2,t⟩⟩⟩
 exact aD hk;exact aD hk;obtain⟨m,_,rfl,h1,h2⟩:=g.inv_cons;obtain⟨q,_,rfl,h3,h4⟩:=h2.inv_cons;rw[h4.inv_nil];unfold dF at hk;simp only at hk;split at hk;rename_i i;split at hk;rename_i k o;obtain⟨j,l,a,b⟩:=xU hk;clear hk;subst a;rw[eQ h3];obtain⟨id,ver,e,c,d,rfl⟩:=jI h1;refine bG (v:=.ref k (o+j*esz)) (y:=.ptr id ver 0 (o+j*esz)) f ?_ (.ref d) b;simp only[doOp,Sim.intOf];rw[iJ2 ⟨by omega,by omega⟩];simp;exact aD hk;exact aD hk;exact aD hk
theorem Fs (g:cM C n h lim s) (j:LR (RV C) xs ys) (hk:dF k xs h n K=some r):eE C n h lim s k ys K r:=by
 cases k with
 |mov=>exact fX1 g j hk
 |nilc=>exact Xl g j hk
 |box ty size=>exact fY1 g j hk
 |alloc ty zero=>exact Ro g j hk
 |build zero parts=>exact Rp g j hk
 |buildSl ty e len zero parts=>exact Iz g j hk
 |loadS=>exact Rs g j hk
 |loadA m=>exact Rt g j hk
 |store m=>exact Ru g j hk
 |fad off=>exact fZ1 g j hk
 |iad e=>exact gA1 g j hk
 |iadA len esz=>exact Xp g j hk
 |idxStr=>exact Np g j hk
 |idxA len e agg=>exact Xm g j hk
 |bin op=>exact gB1 g j hk
 |eqB neg=>exact gC1 g j hk
 |eqA neg ks=>exact gD1 g j hk
 |un op=>exact kB1 g j hk
 |convI k=>exact Rv g j hk
 |s2b t=>exact gE1 g j hk
 |mkfn f m=>exact Xn g j hk
 |mkmap=>exact Rw g j hk
 |mksl ty e b zero=>exact Xo g j hk
 |slc e lo hi mx=>exact gF1 g j hk
 |lookup agg ks zero ok=>exact Nr g j hk
 |mapup agg ks=>exact Rx g j hk
 |len kd=>exact gG1 g j hk
 |ext i=>exact gH1 g j hk
 |_=>rcases xs with _|⟨a,_|⟨b,_|⟨c,_|⟨d,t⟩⟩⟩⟩<;>exact aD hk
end
end Go.P
namespace Go.P
open Go.Sim (AV AO Hp fA upd St IC IX Ex dV CK Wf Out doOp gO Foot foot exec runOps cZ wanted put fH)
def gX:dV->Bool
 |.callF _|.callV=>true
 |_=>false
def kN (N:FuncId->Bool) (dr:Nat):dV->Nat
 |.len kd=>bif Nat.beq kd 2 then 1 else 0
 |.loadS|.loadA _|.lookup .. |.slc .. |.b2s=>1
 |.box .. |.alloc .. |.buildSl .. |.mkmap|.mksl .. =>2
 |.callF f=>if N f then 4 else 3
 |.callV=>if dr=4 then 4 else 3
 |.store _|.mapup .. |.append .. |.copy _|.clear .. =>5
 |_=>0
inductive Tr (T:gO) (N:FuncId->Bool) (dr lim:Nat):List Sim.Op1->St->List Foot->St->Prop
 |nil {σ:St}:Tr T N dr lim [] σ [] σ
 |skip {o:Sim.Op1} {os:List Sim.Op1} {σ τ:St} {fs:List Foot} (hw:wanted σ.t o.guard=false) (h:Tr T N dr lim os {t:=put σ.t o.dst .undef,s:=σ.s} fs τ):Tr T N dr lim (o::os) σ ({}::fs) τ
 |op {o:Sim.Op1} {os:List Sim.Op1} {σ τ:St} {fs:List Foot} {xs:List AV} {out:Out} (hw:wanted σ.t o.guard=true) (he:Sim.evs σ.t o.xs=some xs) (hc:gX o.k=false)
   (hd:doOp (Sim.look σ.s.h) lim σ.s.n o.k xs=some out) (h:Tr T N dr lim os {t:=put σ.t o.dst out.v,s:=out.apply σ.s} fs τ):
   Tr T N dr lim (o::os) σ ({foot T o.k xs with al:=List.range' σ.s.n ((out.apply σ.s).n-σ.s.n)}::fs) τ
 |call {o:Sim.Op1} {os:List Sim.Op1} {σ τ:St} {fs:List Foot} {xs:List AV} {v:AV} (hw:wanted σ.t o.guard=true) (he:Sim.evs σ.t o.xs=some xs) (hc:gX o.k=true) (hk:3<=kN N dr o.k) (hf:foot T o.k xs={all:=1})
   (hs:∃D,∀d,D<=d->∀m,Sim.step T (exec T d) lim o.k xs {h:=σ.s.h,n:=m}=some (v,{h:=σ.s.h,n:=m})) (h:Tr T N dr lim os {t:=put σ.t o.dst v,s:=σ.s} fs τ):
   Tr T N dr lim (o::os) σ ({all:=1}::fs) τ
 |ncall {o:Sim.Op1} {os:List Sim.Op1} {σ τ:St} {fs:List Foot} {xs:List AV} {v:AV} {s':Hp} (hw:wanted σ.t o.guard=true) (he:Sim.evs σ.t o.xs=some xs) (hf:(foot T o.k xs).all=2) (hk:dr≠0->kN N dr o.k=4)
   (hs:∃D,∀d,D<=d->Sim.step T (exec T d) lim o.k xs σ.s=some (v,s')) (h:Tr T N dr lim os {t:=put σ.t o.dst v,s:=s'} fs τ):
   Tr T N dr lim (o::os) σ ({foot T o.k xs with al:=List.range' σ.s.n (s'.n-σ.s.n)}::fs) τ
section
variable {T:gO} {N:FuncId->Bool} {dr lim:Nat}
theorem Tr.append {as a:aA Sim.Op1} {σ τ υ:St} {fs b:aA Foot} (h:Tr T N dr lim as σ fs τ) (k:Tr T N dr lim a τ b υ):Tr T N dr lim (as++a) σ (fs++b) υ:=by
 induction h with
 |nil=>exact k
 |skip hw h ih=>exact .skip hw (ih k)
 |op hw he hc hd h ih=>exact .op hw he hc hd (ih k)
 |call hw he hc hk hf hs h ih=>exact .call hw he hc hk hf hs (ih k)
 |ncall hw he hf hk hs h ih=>exact .ncall hw he hf hk hs (ih k)
theorem Le {ex:Nat->Bool->IC->St->aB (Ex×St)} {k:dV} {xs:aA AV} {s:Hp} {out:Out} (hc:gX k=false) (hd:doOp (Sim.look s.h) lim s.n k xs=some out):Sim.step T ex lim k xs s=some (out.v,out.apply s):=by
 unfold Sim.step;split;simp[gX]at hc;simp[gX]at hc;rw[hd]
theorem Tr.run {os:aA Sim.Op1} {σ τ:St} {fs:aA Foot} (h:Tr T N dr lim os σ fs τ):∃D,∀d,D<=d->runOps T (exec T d) lim os σ=some τ:=by
 induction h with
 |nil=>exact⟨0,fun d _=>rfl⟩
 |skip hw h ih=>
  obtain⟨D,a⟩:=ih;refine⟨D,fun d hd=>?_⟩;simp only[runOps,hw];exact a d hd
 |op hw he hc hd h ih=>
  obtain⟨D,a⟩:=ih;refine⟨D,fun d c=>?_⟩;simp only[runOps,hw,jJ2,he,Le hc hd];exact a d c
 |@ncall o os σ τ fs xs v s' hw he hf hk hs h ih=>
  obtain⟨D,a⟩:=ih;obtain⟨D2,b⟩:=hs;refine⟨max D D2,fun d hd=>?_⟩;simp only[runOps,hw,jJ2,he,b d (by omega)];exact a d (by omega)
 |@call o os σ τ fs xs v hw he hc hk hf hs h ih=>
  obtain⟨D,a⟩:=ih;obtain⟨D2,b⟩:=hs;refine⟨max D D2,fun d hd=>?_⟩;simp only[runOps,hw,jJ2,he];have:=b d (by omega) σ.s.n;rw[show({h:=σ.s.h,n:=σ.s.n}:Hp)=σ.s from rfl]at this;rw[this];exact a d (by omega)
def lK (c:Nat) (f:Foot):Prop:=
 f={}\/match c with
  |0=>f={}
  |1=>f.wr=[]/\f.al=[]/\f.all=0
  |2=>f.rd=[]/\f.wr=[]/\f.all=0
  |3=>f={all:=1}
  |5=>f.all=0
  |_=>True
def eR (i j:Nat):Bool:=
 bif Nat.beq i 0 then !Nat.beq j 4 else bif Nat.beq j 0 then !Nat.beq i 4 else
  (Nat.ble i 3&&Nat.ble j 3&& !(Nat.beq i 3&&Nat.beq j 3)&& !(Nat.beq i 2&&(Nat.beq j 3||Nat.beq j 1)))||(Nat.beq i 5&&Nat.beq j 2)
def jJ (i j:Nat):Bool:=Nat.beq i 0||Nat.beq j 0||eR i j
theorem Ja {i j:Nat} {f g:Foot} (hi:i<=5) (b:j<=5) (h:eR i j=true) (hf:lK i f) (hg:lK j g):Sim.compat0 f g=true:=by
 unfold lK at hf hg;have k:∀g:Foot,g.all<=1->Sim.compat0 {} g=true:=fun g hg=>by simp[Sim.compat0,hg]
 have d:∀f:Foot,f.all<=1->Sim.compat0 f {}=true:=fun f hf=>by simp[Sim.compat0,hf]
 have e:i≠4:=by rintro rfl;(match j,b,h with|0,_,h|1,_,h|2,_,h|3,_,h|4,_,h|5,_,h=>simp[eR]at h)
 have a:j≠4:=by rintro rfl;(match i,hi,h with|0,_,h|1,_,h|2,_,h|3,_,h|4,_,h|5,_,h=>simp[eR]at h)
 have a1:∀{c:Nat} {f:Foot},c<=5->c≠4->(f={}\/match c with
  |0=>f={}
  |1=>f.wr=[]/\f.al=[]/\f.all=0
  |2=>f.rd=[]/\f.wr=[]/\f.all=0
  |3=>f={all:=1}
  |5=>f.all=0
  |_=>True)->f.all<=1:=by grind
 have b1:=a1 hi e hf;have b2:=a1 b a hg;rcases hf with rfl|hf;exact k g b2;rcases hg with rfl|hg;exact d f b1
 have fin:f.wr=[]->g.wr=[]->f.al=[]\/(g.rd=[])->f.all+g.all<=1->Sim.compat0 f g=true:=by
  intro q1 q2 q3 q4;rcases q3 with q3|q3<;>simp[Sim.compat0,q1,q2,q3,q4]
 match i,hi,e,h,hf with
 |0,_,_,_,hf=>rw[hf];exact k g b2
 |1,_,_,h,hf=>
  obtain⟨p1,p2,p3⟩:=hf
  match j,b,a,h,hg with
  |0,_,_,_,hg=>rw[hg];exact d f b1
  |1,_,_,_,hg=>exact fin p1 hg.1 (.inl p2) (by rw[p3,hg.2.2];simp)
  |2,_,_,_,hg=>exact fin p1 hg.2.1 (.inl p2) (by rw[p3,hg.2.2];simp)
  |3,_,_,_,hg=>exact fin p1 (by rw[hg]) (.inl p2) (by rw[p3,hg];simp)
  |4,_,h4,_,_=>exact absurd rfl h4
  |5,_,_,h,_=>simp[eR]at h
 |2,_,_,h,hf=>
  obtain⟨p1,p2,p3⟩:=hf
  match j,b,a,h,hg with
  |0,_,_,_,hg=>rw[hg];exact d f b1
  |1,_,_,h,_=>simp[eR]at h
  |2,_,_,_,hg=>exact fin p2 hg.2.1 (.inr hg.1) (by rw[p3,hg.2.2];simp)
  |3,_,_,h,_=>simp[eR]at h
  |4,_,h4,_,_=>exact absurd rfl h4
  |5,_,_,h,_=>simp[eR]at h
 |3,_,_,h,hf=>
  match j,b,a,h,hg with
  |0,_,_,_,hg=>rw[hg];exact d f b1
  |1,_,_,_,hg=>exact fin (by rw[hf]) hg.1 (.inl (by rw[hf])) (by rw[hf,hg.2.2];simp)
  |2,_,_,_,hg=>exact fin (by rw[hf]) hg.2.1 (.inl (by rw[hf])) (by rw[hf,hg.2.2];simp)
  |3,_,_,h,_=>simp[eR]at h
  |4,_,h4,_,_=>exact absurd rfl h4
  |5,_,_,h,_=>simp[eR]at h
 |4,_,h1,_,_=>exact absurd rfl h1
 |5,_,_,h,hf=>
  match j,b,a,h,hg with
  |0,_,_,_,hg=>rw[hg];exact d f b1
  |1,_,_,h,_=>simp[eR]at h
  |2,_,_,_,hg=>
   obtain⟨p1,p2,p3⟩:=hg;have hf:f.all=0:=hf;simp[Sim.compat0,p1,p2,p3,hf]
  |3,_,_,h,_=>simp[eR]at h
  |4,_,h4,_,_=>exact absurd rfl h4
  |5,_,_,h,_=>simp[eR]at h
theorem An {i j:Nat} {f g:Foot} (hi:i<=5) (a:j<=5) (h:jJ i j=true) (hf:lK i f) (hg:lK j g):Sim.compat f g=true:=by
 simp only[jJ,iS2]at h;rcases h with(h|h)|h;have:=iW2 h;subst this;rcases hf with rfl|hf;rfl;have hf:f={}:=hf;subst hf;rfl;have:=iW2 h;subst this;have hg:g={}:=by rcases hg with hg|hg<;>exact hg
 subst hg;simp[Sim.compat,Sim.Foot.isE];simp[Sim.compat,Ja hi a h hf hg]
theorem oH (N:FuncId->Bool) (dr:Nat) (k:dV):kN N dr k<=5:=by
 cases k
 case len kd=>simp only[kN];cases Nat.beq kd 2<;>simp
 all_goals simp[kN]<;>split<;>omega
theorem rT {N:FuncId->Bool} {dr:Nat} {k:dV} (h:gX k=true):kN N dr k=3\/kN N dr k=4:=by
 cases k<;>simp[gX]at h<;>simp only[kN]<;>split<;>simp
theorem dW1 {L:Nat->aB AO} {n:Nat} {k:dV} {xs:aA AV} {out:Out} (h:doOp L lim n k xs=some out) (hk:kN N dr k<=1):out.new=none:=by
 have hc:∀{o:aB Out} {P:Prop},o=some out->(∀o',o=some o'->o'.new=none)->out.new=none:=fun h1 h2=>h2 _ h1;unfold doOp at h;split at h
 all_goals first|(simp[kN]at hk;done)|(simp only[kN]at hk;split at hk<;>omega)|skip
 all_goals (repeat' split at h)
 all_goals first|(cases h;done)|(cases h;rfl)|(simp only[iE2]at h;obtain⟨_,_,rfl⟩:=h;rfl)|skip
theorem oI {s:Hp} {out:Out} (h:out.new=none):List.range' s.n ((out.apply s).n-s.n)=[]:=by
 unfold Out.apply;rw[h];simp
end
end Go.P
namespace Go.P
open Go.Sim (AV AO Hp fA upd St IC IX Ex dV CK Wf Out doOp gO Foot foot exec runOps cZ wanted put fH)
section
variable {T:gO} {N:FuncId->Bool} {dr lim:Nat}
theorem Lf {k:dV} {xs:aA AV} {s:Hp} {out:Out} (hc:gX k=false) (hd:doOp (Sim.look s.h) lim s.n k xs=some out):
  lK (kN N dr k) {foot T k xs with al:=List.range' s.n ((out.apply s).n-s.n)}:=by
 have d:kN N dr k<=1->List.range' s.n ((out.apply s).n-s.n)=[]:=fun h=>oI (dW1 hd h);cases k
 case len kd=>
  cases hk:Nat.beq kd 2 with
  |true=>
   have hl:=d (by simp[kN,hk]);rw[hl,show kN N dr (.len kd)=1 by simp[kN,hk]];refine .inr ⟨?_,rfl,?_⟩<;>(rcases xs with _|⟨a,_|⟨b,t⟩⟩<;>rfl)
  |false=>
   have h0:=d (by simp[kN,hk]);refine .inl ?_;rw[h0];rcases xs with _|⟨a,_|⟨b,t⟩⟩<;>simp[foot,hk]
 all_goals first|(simp[gX]at hc;done)|skip
 all_goals first
  |exact .inr trivial
  |(refine .inr ?_;rcases xs with _|⟨a,_|⟨b,_|⟨c,t⟩⟩⟩<;>rfl)
  |(have h0:=d (iV2 1);refine .inl ?_;rw[h0];rfl)
  |(have h0:=d (iH2 1);refine .inr ⟨?_,h0,?_⟩<;>(rcases xs with _|⟨a,_|⟨b,_|⟨c,t⟩⟩⟩<;>rfl))
  |exact .inr ⟨rfl,rfl,rfl⟩
theorem oT {c:Nat} (h:c=3\/c=4) (f:Foot) (hf:f={all:=1}):lK c f:=by
 subst hf;rcases h with rfl|rfl;exact .inr rfl;exact .inr trivial
theorem Tr.feet (a:dr≠0) {os:aA Sim.Op1} {σ τ:St} {fs:aA Foot} (h:Tr T N dr lim os σ fs τ):fs.length=os.length/\∀(i:Nat) (o:Sim.Op1) (f:Foot),os[i]? =some o->fs[i]? =some f->lK (kN N dr o.k) f:=by
 induction h with
 |nil=>exact⟨rfl,fun i o f h=>by simp at h⟩
 |skip hw h ih=>
  refine⟨by simp[ih.1],fun i o f h1 h2=>?_⟩;cases i with
  |zero=>simp at h1 h2;subst h1;subst h2;exact .inl rfl
  |succ i=>simp at h1 h2;exact ih.2 i o f h1 h2
 |op hw he hc hd h ih=>
  refine⟨by simp[ih.1],fun i o f h1 h2=>?_⟩;cases i with
  |zero=>simp at h1 h2;subst h1;subst h2;exact Lf hc hd
  |succ i=>simp at h1 h2;exact ih.2 i o f h1 h2
 |@call o os σ τ fs xs v hw he hc hk hf hs h ih=>
  refine⟨by simp[ih.1],fun i o' f h1 h2=>?_⟩;cases i with
  |zero=>
   simp at h1 h2;subst h1;subst h2;exact oT (rT hc) _ rfl
  |succ i=>simp at h1 h2;exact ih.2 i o' f h1 h2
 |@ncall o os σ τ fs xs v s' hw he hf hk hs h ih=>
  refine⟨by simp[ih.1],fun i o' f h1 h2=>?_⟩;cases i with
  |zero=>
   simp at h1 h2;subst h1;subst h2;rw[hk a];exact .inr trivial
  |succ i=>simp at h1 h2;exact ih.2 i o' f h1 h2
theorem gC {f g:Foot} (h:Sim.compat0 f g=true):Sim.compat f g=true:=by simp[Sim.compat,h]
def Cj (ks before:aA Nat):Bool:=
 (List.range ks.length).all fun j=>(List.range j).all fun i=>(before.getD j 0).testBit i||jJ (ks.getD i 4) (ks.getD j 4)
theorem xV {a:Nat} {ft:Nat->Foot}:∀{j:Nat},(∀i,i<j->a.testBit i=true\/(ft i).al=[])->Sim.unseen a j (fH ft j)=[]
 |0,_=>rfl
 |j+1,h=>by
  simp only[fH,Sim.unseen,kZ2]
  rw[xV (fun i hi=>h i (by omega))]
  rcases h j (by omega)with h1|h1
  rw[iJ2 h1];rfl
  rw[h1];simp
theorem rU {a:Nat} {f:Foot} {ft:Nat->Foot}:∀{j:Nat},(∀i,i<j->a.testBit i=true\/Sim.compat (ft i) f=true)->Sim.drawOK.okAgainst a f (fH ft j) j=true
 |0,_=>rfl
 |j+1,h=>by
  simp only[fH,Sim.drawOK.okAgainst,kZ2,iD2,iS2]
  exact⟨h j (by omega),rU (fun i hi=>h i (by omega))⟩
theorem tO {before:aA Nat} {ft:Nat->Foot}:∀{m:Nat},(∀j,j<m->∀i,i<j->(before.getD j 0).testBit i=true\/Sim.compat (ft i) (ft j)=true)->Sim.drawOK before (fH ft m) m=true
 |0,_=>rfl
 |m+1,h=>by
  simp only[fH,Sim.drawOK,kZ2,iD2]
  exact⟨rU (h m (by omega)),tO (fun j a=>h j (by omega))⟩
theorem Sb (h:aA fA):Sim.hide [] h=h:=rfl
theorem Tr.foot (C:dr≠0) {before ks:aA Nat}:∀{os:aA Sim.Op1} {σ τ:St} {fs:aA Foot},Tr T N dr lim os σ fs τ->∀(j:Nat) (ft:Nat->Foot),
  (∀(i:Nat),i<fs.length->fs[i]? =some (ft (j+i)))->(∀(i:Nat) (o:Sim.Op1),os[i]? =some o->ks[j+i]? =some (kN N dr o.k))->
  (∀(i l k k':Nat),i<l->ks[i]? =some k->ks[l]? =some k'->k'=3\/k'=4->(before.getD l 0).testBit i=true\/jJ k k'=true)->(∀i k,i<j->ks[i]? =some k->lK k (ft i))->(∀i,i<j->∃k,ks[i]? =some k/\k<=5)->
  ∃D,∀d,D<=d->cZ T (exec T d) lim before os j (fH ft j) σ=some (τ,fH ft (j+os.length)):=by
 intro os σ τ fs h
 induction h with
 |nil=>intro j ft _ _ _ _ _;exact⟨0,fun d _=>rfl⟩
 |@skip o os σ τ fs hw h ih=>
  intro j ft h1 h2 h3 h4 h5;have m:ft j={}:=by have:=h1 0 (by simp);simpa using this.symm
  obtain⟨D,p⟩:=ih (j+1) ft (fun i hi=>by have:=h1 (i+1) (by simp;omega);simpa[jU2,kM2 1 i]using this) (fun i o w=>by have:=h2 (i+1) o (by simpa using w);simpa[jU2,kM2 1 i]using this) h3
   (fun i k hi hk=>by
    by_cases e:i=j;subst e;rw[m];exact .inl rfl;exact h4 i k (by omega) hk)
   (fun i hi=>by
    by_cases e:i=j;subst e;exact⟨_,by have:=h2 0 o rfl;simpa using this,oH _ _ _⟩;exact h5 i (by omega))
  refine⟨D,fun d hd=>?_⟩;simp only[cZ,hw];have:=p d hd;rw[fH,m]at this;rw[jN2,show j+(os.length+1)=j+1+os.length by omega];exact this
 |@op o os σ τ fs xs out hw he hc hd h ih=>
  intro j ft h1 h2 h3 h4 h5;have m:ft j={Sim.foot T o.k xs with al:=List.range' σ.s.n ((out.apply σ.s).n-σ.s.n)}:=by have:=h1 0 (by simp);simpa using this.symm
  obtain⟨D,p⟩:=ih (j+1) ft (fun i hi=>by have:=h1 (i+1) (by simp;omega);simpa[jU2,kM2 1 i]using this) (fun i o w=>by have:=h2 (i+1) o (by simpa using w);simpa[jU2,kM2 1 i]using this) h3
   (fun i k hi hk=>by
    by_cases e:i=j;subst e;have:=h2 0 o rfl;rw[kP2,hk]at this;cases this;rw[m];exact Lf hc hd;exact h4 i k (by omega) hk)
   (fun i hi=>by
    by_cases e:i=j;subst e;exact⟨_,by have:=h2 0 o rfl;simpa using this,oH _ _ _⟩;exact h5 i (by omega))
  have A:(Sim.foot T o.k xs).all=0:=by
   cases hk:o.k<;>simp[hk,gX]at hc<;>(rcases xs with _|⟨a,_|⟨b,_|⟨c,t⟩⟩⟩<;>rfl)
  have x:¬(Sim.foot T o.k xs).all=1:=by omega
  have r:¬(Sim.foot T o.k xs).all=3:=by omega
  refine⟨D,fun d B=>?_⟩;simp only[cZ,hw,jJ2,he];rw[iL2 x,iL2 r,Le hc hd];simp only;have:=p d B;rw[fH,m]at this;rw[jN2,show j+(os.length+1)=j+1+os.length by omega];exact this
 |@ncall o os σ τ fs xs v s' hw he hf hk hs h ih=>
  intro j ft h1 h2 h3 h4 h5;have m:ft j={Sim.foot T o.k xs with al:=List.range' σ.s.n (s'.n-σ.s.n)}:=by have:=h1 0 (by simp);simpa using this.symm
  obtain⟨D,p⟩:=ih (j+1) ft (fun i hi=>by have:=h1 (i+1) (by simp;omega);simpa[jU2,kM2 1 i]using this) (fun i o w=>by have:=h2 (i+1) o (by simpa using w);simpa[jU2,kM2 1 i]using this) h3
   (fun i k hi y=>by
    by_cases e:i=j;subst e;have:=h2 0 o rfl;rw[kP2,y]at this;cases this;rw[m,hk C];exact .inr trivial;exact h4 i k (by omega) y)
   (fun i hi=>by
    by_cases e:i=j;subst e;exact⟨_,by have:=h2 0 o rfl;simpa using this,oH _ _ _⟩;exact h5 i (by omega))
  obtain⟨D2,q⟩:=hs;refine⟨max D D2,fun d hd=>?_⟩;simp only[cZ,hw,jJ2,he];rw[iL2 (by rw[hf];omega),iL2 (by rw[hf];omega),q d (by omega)];simp only;have:=p d (by omega);rw[fH,m]at this;rw[jN2,show j+(os.length+1)=j+1+os.length by omega];exact this
 |@call o os σ τ fs xs v hw he hc hk3 hf hs h ih=>
  intro j ft h1 h2 h3 h4 h5;have m:ft j={all:=1}:=by have:=h1 0 (by simp);simpa using this.symm
  have u:ks[j]? =some (kN N dr o.k):=by
   have:=h2 0 o rfl;simpa using this
  obtain⟨D,p⟩:=ih (j+1) ft (fun i hi=>by have:=h1 (i+1) (by simp;omega);simpa[jU2,kM2 1 i]using this) (fun i o w=>by have:=h2 (i+1) o (by simpa using w);simpa[jU2,kM2 1 i]using this) h3
   (fun i k hi hk=>by
    by_cases e:i=j;subst e;rw[u]at hk;cases hk;rw[m];exact oT (rT hc) _ rfl;exact h4 i k (by omega) hk)
   (fun i hi=>by
    by_cases e:i=j;subst e;exact⟨_,u,oH _ _ _⟩;exact h5 i (by omega))
  obtain⟨D2,q⟩:=hs
  have F:Sim.unseen (before.getD j 0) j (fH ft j)=[]:=by
   refine xV (fun i hi=>?_);obtain⟨k,hk,z⟩:=h5 i hi;rcases h3 i j k _ hi hk u (rT hc)with g|g;exact .inl g;right;have f:=h4 i k hi hk
   have E:jJ k 3=true:=by
    rcases rT (N:=N) (dr:=dr) hc with e|e;rw[e]at g;exact g;rw[e]at g;(match k,z,g with|0,_,_=>rfl|1,_,h|2,_,h|3,_,h|4,_,h|5,_,h=>simp[jJ,eR]at h)
   rcases f with f|f;rw[f]
   match k,z,E,f with
   |0,_,_,f=>rw[f]
   |1,_,_,f=>exact f.2.1
   |2,_,g,_=>simp[jJ,eR]at g
   |3,_,_,f=>rw[f]
   |4,_,g,_=>simp[jJ,eR]at g
   |5,_,g,_=>simp[jJ,eR]at g
  refine⟨max D D2,fun d hd=>?_⟩;simp only[cZ,hw,jJ2,he];rw[iJ2 (by rw[hf]),F,Sb,q d (by omega) _];simp only;have:=p d (by omega);rw[fH,m]at this;rw[hf,jN2,show j+(os.length+1)=j+1+os.length by omega];exact this
theorem Ft {ks before:aA Nat} (h:Cj ks before=true):∀(i l k k':Nat),i<l->ks[i]? =some k->ks[l]? =some k'->(before.getD l 0).testBit i=true\/jJ k k'=true:=by
 intro i l k k' a hi hl;simp only[Cj,iM2,List.mem_range,iS2]at h;have:=h l (iG2.1 hl).1 i a;simpa[List.getD,hi,hl]using this
theorem Tr.draw (e:dr≠0) {before:aA Nat} {os:aA Sim.Op1} {σ τ:St} {fs:aA Foot} (h:Tr T N dr lim os σ fs τ) (n:Cj (os.map fun o=>kN N dr o.k) before=true):
  ∃D,∀d,D<=d->∃f,cZ T (exec T d) lim before os 0 [] σ=some (τ,f)/\Sim.drawOK before f f.length=true:=by
 let ft:Nat->Foot:=fun i=>fs.getD i {}
 have b:∀i,i<fs.length->fs[i]? =some (ft i):=fun i hi=>by simp[ft,hi]
 obtain⟨hl,a⟩:=h.feet e;have sp:=Ft n;have c:∀(i:Nat) (o:Sim.Op1),os[i]? =some o->(os.map fun o=>kN N dr o.k)[i]? =some (kN N dr o.k):=fun i o m=>by simp[m]
 obtain⟨D,q⟩:=Tr.foot e (before:=before) (ks:=os.map fun o=>kN N dr o.k) h 0 ft (fun i hi=>by rw[kC2];exact b i hi) (fun i o m=>by rw[kC2];exact c i o m)
  (fun i l k k' g h1 h2 _=>sp i l k k' g h1 h2) (fun i k hi=>by omega) (fun i hi=>by omega)
 refine⟨D,fun d hd=>⟨_,q d hd,?_⟩⟩;rw[kC2,Sim.revF_length];refine tO (fun j r i hi=>?_);have p:os[j]? =some os[j]:=by simp
 have oi:os[i]? =some (os[i]'(by omega)):=by simp
 rcases sp i j _ _ hi (c i _ oi) (c j _ p)with h1|h1;exact .inl h1;right;exact An (oH _ _ _) (oH _ _ _) h1 (a i _ _ oi (b i (by omega))) (a j _ _ p (b j (by omega)))
def Ns (o:Sim.Op1) (a:Nat):Bool:=match o.k,o.xs with
 |.loadS,[.t b]=>Nat.beq b a
 |.loadA _,[.t b]=>Nat.beq b a
 |.slc ..,.t b::_=>Nat.beq b a
 |_,_=>false
def tkM (o:Sim.Op1):Bool:=match o.k with
 |.buildSl .. |.append .. =>true
 |_=>false
def Pj (o:Sim.Op1) (a:Nat):Bool:=match o.k,o.xs with
 |.store _,[.t b,_]=>Nat.beq b a
 |.mapup ..,[.t b,_,_]=>Nat.beq b a
 |_,_=>false
def Nt (o:Sim.Op1) (a:Nat):Bool:=match o.k,o.dst with
 |.buildSl ..,some d=>Nat.beq d a
 |.append ..,some d=>Nat.beq d a
 |_,_=>false
def oJ (a:Nat) (o:Sim.Op1):Bool:=match o.dst with
 |some d=> !Nat.beq d a
 |none=>true
def Sd (o:Sim.Op1) (d:Nat):aB Nat:=match o.k,o.xs,o.dst,o.guard with
 |.append ..,.t b::_,some d',none=>if Nat.beq b d=true then some d' else none
 |_,_,_,_=>none
def rV:aA Sim.Op1->Nat->Nat->Bool
 |[],d,a=>Nat.beq d a
 |o::os,d,a=>(oJ d o&&rV os d a)||(match Sd o d with|some d'=>rV os d' a|none=>false)
def Xq (os:aA Sim.Op1) (o:Sim.Op1) (i a:Nat):Bool:=match o.dst with
 |some d=>Nt o d&&rV (os.drop (i+1)) d a
 |none=>false
def tkS (o:Sim.Op1) (a:Nat):Bool:=match o.k,o.dst with
 |.slc ..,some d=>Nat.beq d a
 |_,_=>false
def Nu (os:aA Sim.Op1) (p:Nat×Nat×Nat×Nat):Bool:=match os[p.1]?,os[p.2.1]? with
 |some o,some q=>((os.drop p.2.1).all (oJ p.2.2.2)&&((Ns o p.2.2.1&&(os.drop p.1).all (oJ p.2.2.1)&&Pj q p.2.2.2)||(Nt o p.2.2.1&&(os.drop (p.1+1)).all (oJ p.2.2.1)&&Ns q p.2.2.2)||(Nat.beq p.2.2.1 p.2.2.2&&tkM o&&Ns q p.2.2.2)||(Xq os o p.1 p.2.2.1&&Ns q p.2.2.2)))||(Ns o p.2.2.1&&(os.drop p.1).all (oJ p.2.2.1)&&(Nt q p.2.2.2&&(os.drop (p.2.1+1)).all (oJ p.2.2.2)))||(tkS o p.2.2.1&&(os.drop (p.1+1)).all (oJ p.2.2.1)&&(Pj q p.2.2.2&&(os.drop p.2.1).all (oJ p.2.2.2)))
 |_,_=>false
def Lg (ks before:aA Nat) (ex:aA (Nat×Nat×Nat×Nat)):Bool:=
 (List.range ks.length).all fun j=>(List.range j).all fun i=>(before.getD j 0).testBit i||jJ (ks.getD i 4) (ks.getD j 4)||ex.any fun p=>Nat.beq p.1 i&&Nat.beq p.2.1 j
theorem lL {t:aA AV} {o:Sim.Op1} {a:Nat} {v:AV} (h:oJ a o=true):(put t o.dst v)[a]? =t[a]? :=by
 unfold oJ at h;unfold put;split;rename_i d hd;rw[hd]at h;simp only[iX2,bK,jL2]at h;rw[jB2 h];rfl
theorem Tr.keep {os:aA Sim.Op1} {σ τ:St} {fs:aA Foot} (h:Tr T N dr lim os σ fs τ) {a:Nat} (b:os.all (oJ a)=true):τ.t[a]? =σ.t[a]? :=by
 induction h with
 |nil=>rfl
 |skip hw h ih=>simp only[kD2,iD2]at b;rw[ih b.2,lL b.1]
 |op hw he hc hd h ih=>simp only[kD2,iD2]at b;rw[ih b.2,lL b.1]
 |call hw he hc hk hf hs h ih=>simp only[kD2,iD2]at b;rw[ih b.2,lL b.1]
 |ncall hw he hf hk hs h ih=>simp only[kD2,iD2]at b;rw[ih b.2,lL b.1]
theorem kE1 {L:Nat->aB AO} {n:Nat} {o:Sim.Op1} {a:Nat} {xs:aA AV} {out:Out} (hk:Pj o a=true) (h:doOp L lim n o.k xs=some out):out.new=none:=by
 unfold Pj at hk;split at hk
 .rename_i h1 h2
  rw[h1]at h;unfold doOp at h
  repeat' split at h
  all_goals first|(cases h;done)|(cases h;rfl)|simp_all
 .rename_i h1 h2
  rw[h1]at h;unfold doOp at h
  repeat' split at h
  all_goals first|(cases h;done)|(cases h;rfl)|simp_all
 .cases hk
theorem Nv {t:aA AV} {b:Nat} {r:aA IX} {xs:aA AV} (h:Sim.evs t (.t b::r)=some xs):∃y ys,xs=y::ys/\t[b]? =some y/\Sim.evs t r=some ys:=by
 simp only[Sim.evs,Sim.IX.ev]at h;split at h;rename_i a as h1 h2;cases h;exact⟨a,as,rfl,h1,h2⟩;cases h
theorem oU {s:Hp} {out:Out} {x:AO} (h:out.new=some x):List.range' s.n ((out.apply s).n-s.n)=[s.n]:=by
 have:(out.apply s).n=s.n+1:=by unfold Out.apply;rw[h]
 rw[this,Nat.add_sub_cancel_left];rfl
def Se (f:Foot) (τ:St) (a:Nat):Prop:=f={}\/∀y,τ.t[a]? =some y->f.rd=Sim.idOf y/\f.wr=[]/\f.al=[]/\f.all=0
def kF1 (f:Foot) (τ:St) (a:Nat):Prop:=f={}\/∀y,τ.t[a]? =some y->f.wr=Sim.idOf y/\f.rd=[]/\f.al=[]/\f.all=0
def Xr (f:Foot) (τ:St) (a:Nat):Prop:=f={}\/∀y,τ.t[a]? =some y->f.all=0/\(∀x∈f.wr,x∈Sim.idOf y)/\∀x∈f.al,x∈Sim.idOf y
theorem Jb {L:Nat->aB AO} {n ty esz:Nat} {s:AV} {new:aA (aA AV)} {out:Out} (h:Sim.appendTo L lim n ty esz s new=some out):
  (∀x∈Sim.idOf s,x∈Sim.idOf out.v)/\(out.new=none\/Sim.idOf out.v=[n]):=by
 unfold Sim.appendTo at h
 repeat' split at h
 all_goals first|(cases h;done)|(cases h;exact⟨fun x a=>a,.inl rfl⟩)|(cases h;exact⟨fun x a=>by simp[Sim.idOf]at a,.inr rfl⟩)
theorem Ck {L:Nat->aB AO} {n:Nat} {o:Sim.Op1} {a:Nat} {xs:aA AV} {out:Out} (hk:Nt o a=true) (h:doOp L lim n o.k xs=some out):
  (foot T o.k xs).all=0/\(∀x∈(foot T o.k xs).wr,x∈Sim.idOf out.v)/\(out.new=none\/Sim.idOf out.v=[n])/\o.dst=some a:=by
 unfold Nt at hk;split at hk;rename_i d h1 h2;rw[h1]at h ⊢;rw[h2,iW2 hk];refine⟨by rcases xs with _|⟨p,_|⟨q,_|⟨r,t⟩⟩⟩<;>rfl,fun x e=>by rcases xs with _|⟨p,_|⟨q,_|⟨r,t⟩⟩⟩<;>simp[foot]at e,.inr ?_,rfl⟩;unfold doOp at h;simp only[iE2]at h;obtain⟨cs,_,rfl⟩:=h;rfl;rename_i d h1 h2;rw[h1]at h ⊢;rcases xs with _|⟨p,_|⟨q,_|⟨r,t⟩⟩⟩
 simp[doOp]at h;simp[doOp]at h;simp only[doOp]at h;split at h;split at h;rename_i o' c;have:=Jb c
 have b:out=o':=by
  split at h;split at h;cases h;rfl;cases h;cases h;rfl
 subst b;exact⟨rfl,this.1,this.2,by rw[h2,iW2 hk]⟩;cases h;cases h;simp[doOp]at h;cases hk
theorem gI1 {o:Sim.Op1} {a:Nat} {σ:St} {xs:aA AV} (hk:Ns o a=true) (he:Sim.evs σ.t o.xs=some xs):∃y,σ.t[a]? =some y/\foot T o.k xs={rd:=Sim.idOf y}/\kN N dr o.k<=1:=by
 unfold Ns at hk;split at hk;rename_i b h1 h2;rw[h2]at he;obtain⟨y,ys,rfl,h3,h4⟩:=Nv he;simp only[Sim.evs,iK2]at h4;subst h4;rw[h1,<-iW2 hk];exact⟨y,h3,rfl,by simp[kN]⟩;rename_i b h1 h2;rw[h2]at he;obtain⟨y,ys,rfl,h3,h4⟩:=Nv he;simp only[Sim.evs,iK2]at h4;subst h4;rw[h1,<-iW2 hk];exact⟨y,h3,rfl,by simp[kN]⟩;rename_i b _ h1 h2;rw[h2]at he;obtain⟨y,ys,rfl,h3,h4⟩:=Nv he;rw[h1,<-iW2 hk];exact⟨y,h3,rfl,by simp[kN]⟩;cases hk
theorem gJ1 {o:Sim.Op1} {a:Nat} {σ:St} {xs:aA AV} (hk:Pj o a=true) (he:Sim.evs σ.t o.xs=some xs):∃y,σ.t[a]? =some y/\foot T o.k xs={wr:=Sim.idOf y}:=by
 unfold Pj at hk;split at hk;rename_i b c h1 h2;rw[h2]at he;obtain⟨y,ys,rfl,h3,h4⟩:=Nv he;rw[h1,<-iW2 hk];exact⟨y,h3,rfl⟩;rename_i b c d h1 h2;rw[h2]at he;obtain⟨y,ys,rfl,h3,h4⟩:=Nv he;rw[h1,<-iW2 hk];exact⟨y,h3,rfl⟩;cases hk
theorem mM {o:Sim.Op1} {a:Nat} (h:Ns o a=true\/Pj o a=true\/Nt o a=true):gX o.k=false/\∀xs,(foot T o.k xs).all=0:=by
 have key:∀k:dV,(k=.loadS\/(∃n,k=.loadA n)\/(∃n,k=.store n)\/(∃a b,k=.mapup a b)\/(∃a b c d e,k=.buildSl a b c d e)\/(∃a b c d e,k=.append a b c d e)\/∃a b c d,k=.slc a b c d)->gX k=false/\∀xs,(foot T k xs).all=0:=by
  intro k hk
  rcases hk with rfl|⟨_,rfl⟩|⟨_,rfl⟩|⟨_,_,rfl⟩|⟨_,_,_,_,_,rfl⟩|⟨_,_,_,_,_,rfl⟩|⟨_,_,_,_,rfl⟩<;>
   exact⟨rfl,fun xs=>by rcases xs with _|⟨p,_|⟨q,_|⟨r,t⟩⟩⟩<;>rfl⟩
 refine key _ ?_;rcases h with h|h|h;unfold Ns at h;split at h;rename_i h1 _;exact .inl h1;rename_i h1 _;exact .inr (.inl ⟨_,h1⟩);rename_i h1 _;exact .inr (.inr (.inr (.inr (.inr (.inr ⟨_,_,_,_,h1⟩)))));cases h;unfold Pj at h;split at h;rename_i h1 _;exact .inr (.inr (.inl ⟨_,h1⟩));rename_i h1 _;exact .inr (.inr (.inr (.inl ⟨_,_,h1⟩)));cases h;unfold Nt at h;split at h;rename_i h1 _;exact .inr (.inr (.inr (.inr (.inl ⟨_,_,_,_,_,h1⟩))));rename_i h1 _;exact .inr (.inr (.inr (.inr (.inr (.inl ⟨_,_,_,_,_,h1⟩)))));cases h
theorem Tr.touch {os:aA Sim.Op1} {σ τ:St} {fs:aA Foot} (h:Tr T N dr lim os σ fs τ):∀(i:Nat) (o:Sim.Op1) (f:Foot) (a:Nat),os[i]? =some o->fs[i]? =some f->
  (Ns o a=true->(os.drop i).all (oJ a)=true->Se f τ a)/\(Pj o a=true->(os.drop i).all (oJ a)=true->kF1 f τ a)/\(Nt o a=true->(os.drop (i+1)).all (oJ a)=true->Xr f τ a):=by
 induction h with
 |nil=>intro i o f a h;simp at h
 |skip hw h ih=>
  intro i o f a h1 h2;cases i with
  |zero=>simp at h1 h2;subst h1;subst h2;exact⟨fun _ _=>.inl rfl,fun _ _=>.inl rfl,fun _ _=>.inl rfl⟩
  |succ i=>simp at h1 h2;simpa using ih i o f a h1 h2
 |@op o os σ τ fs xs out hw he hc hd h ih=>
  intro i o' f a h1 h2;cases i with
  |zero=>
   simp at h1 h2;subst h1;subst h2;refine⟨fun hk hb=>?_,fun hk hb=>?_,fun hk hb=>?_⟩;simp only[jX2,kD2,iD2]at hb;obtain⟨y,j,d,e⟩:=gI1 (T:=T) (N:=N) (dr:=dr) hk he;refine .inr (fun z b=>?_);rw[h.keep hb.2,lL hb.1,j]at b;cases b;exact⟨by rw[d],by rw[d],oI (dW1 hd e),by rw[d]⟩;simp only[jX2,kD2,iD2]at hb;obtain⟨y,j,d⟩:=gJ1 (T:=T) hk he;refine .inr (fun z b=>?_);rw[h.keep hb.2,lL hb.1,j]at b;cases b;exact⟨by rw[d],by rw[d],oI (kE1 hk hd),by rw[d]⟩;obtain⟨j,d,e,m⟩:=Ck (T:=T) hk hd;have hb:os.all (oJ a)=true:=by simpa using hb
   have g:∀z,(put σ.t o.dst out.v)[a]? =some z->z=out.v:=fun z b=>by
    rw[m]at b;simp only[put,jD2]at b;split at b;split at b;cases b;rfl;cases b;rename_i l;exact(l trivial).elim
   refine .inr (fun z b=>?_);rw[h.keep hb]at b;have:=g z b;subst this;refine⟨j,d,fun x c=>?_⟩;rcases e with e|e;have:=oI (s:=σ.s) e;simp only at c;rw[this]at c;simp at c;cases hn:out.new with
   |none=>
    have:=oI (s:=σ.s) hn;simp only at c;rw[this]at c;simp at c
   |some w=>
    simp only at c;rw[oU hn]at c;rw[e];exact c
  |succ i=>simp at h1 h2;simpa using ih i o' f a h1 h2
 |@call o os σ τ fs xs v hw he hc hk hf hs h ih=>
  intro i o' f a h1 h2;cases i with
  |zero=>
   simp at h1 h2;subst h1;subst h2;have no:¬(Ns o a=true\/Pj o a=true\/Nt o a=true):=fun k=>by have:=(mM (T:=T) k).1;rw[hc]at this;cases this
   exact⟨fun hk _=>absurd (.inl hk) no,fun hk _=>absurd (.inr (.inl hk)) no,fun hk _=>absurd (.inr (.inr hk)) no⟩
  |succ i=>simp at h1 h2;simpa using ih i o' f a h1 h2
 |@ncall o os σ τ fs xs v s' hw he hf hk hs h ih=>
  intro i o' f a h1 h2;cases i with
  |zero=>
   simp at h1 h2;subst h1;subst h2;have no:¬(Ns o a=true\/Pj o a=true\/Nt o a=true):=fun k=>by have:=(mM (T:=T) k).2 xs;rw[hf]at this;cases this
   exact⟨fun hk _=>absurd (.inl hk) no,fun hk _=>absurd (.inr (.inl hk)) no,fun hk _=>absurd (.inr (.inr hk)) no⟩
  |succ i=>simp at h1 h2;simpa using ih i o' f a h1 h2
theorem Xt {L:Nat->aB AO} {n e:Nat} {lo hi mx:Bool} {xs:aA AV} {out:Out} (h:doOp L lim n (.slc e lo hi mx) xs=some out):∃y,foot T (.slc e lo hi mx) xs={rd:=Sim.idOf y}/\Sim.idOf out.v=Sim.idOf y/\out.new=none:=by
 cases xs with
 |nil=>simp[doOp,Sim.sliceOp]at h
 |cons y ys=>
  refine⟨y,rfl,?_⟩;have h2:(Sim.sliceOp L e lo hi mx (y::ys)).map (fun v=>({v:=v}:Out))=some out:=h;clear h;rw[iE2]at h2;obtain⟨v,h3,rfl⟩:=h2;refine⟨?_,rfl⟩;cases y<;>simp only[Sim.sliceOp]at h3<;>(repeat' split at h3)<;>first|(cases h3;done)|(cases h3;rfl)|(simp at h3;done)|(simp at h3;subst h3;simp_all[Sim.idOf])
theorem Tr.touchS {os:aA Sim.Op1} {σ τ:St} {fs:aA Foot} (h:Tr T N dr lim os σ fs τ):∀(i:Nat) (o:Sim.Op1) (f:Foot) (a:Nat),os[i]? =some o->fs[i]? =some f->tkS o a=true->(os.drop (i+1)).all (oJ a)=true->Se f τ a:=by
 induction h with
 |nil=>intro i o f a h;simp at h
 |skip hw h ih=>
  intro i o f a h1 h2 hk hb;cases i with
  |zero=>simp at h1 h2;subst h1;subst h2;exact .inl rfl
  |succ i=>simp at h1 h2;exact ih i o f a h1 h2 hk (by simpa using hb)
 |@op o os σ τ fs xs out hw he hc hd h ih=>
  intro i o' f a h1 h2 hk hb;cases i with
  |zero=>
   simp at h1 h2;subst h1;subst h2;unfold tkS at hk;split at hk;rename_i d q1 q2;rw[q1]at hd;obtain⟨y,g,j,k⟩:=Xt (T:=T) hd;have hb:os.all (oJ a)=true:=by simpa using hb
   have c:∀z,(put σ.t o.dst out.v)[a]? =some z->z=out.v:=fun z b=>by
    rw[q2,iW2 hk]at b;simp only[put,jD2]at b;split at b;split at b;cases b;rfl;cases b;rename_i e;exact(e trivial).elim
   refine .inr (fun z b=>?_);rw[h.keep hb]at b;have:=c z b;subst this;rw[q1];exact⟨by rw[g,j],by rw[g],oI k,by rw[g]⟩;cases hk
  |succ i=>simp at h1 h2;exact ih i o' f a h1 h2 hk (by simpa using hb)
 |@call o os σ τ fs xs v hw he hc hk' hf hs h ih=>
  intro i o' f a h1 h2 hk hb;cases i with
  |zero=>
   simp at h1 h2;subst h1;subst h2;unfold tkS at hk;split at hk;rename_i d q1 q2;rw[q1]at hc;cases hc;cases hk
  |succ i=>simp at h1 h2;exact ih i o' f a h1 h2 hk (by simpa using hb)
 |@ncall o os σ τ fs xs v s' hw he hf hk' hs h ih=>
  intro i o' f a h1 h2 hk hb;cases i with
  |zero=>
   simp at h1 h2;subst h1;subst h2;unfold tkS at hk;split at hk;rename_i d q1 q2;rw[q1]at hf;rcases xs with _|⟨x,t⟩<;>exact absurd (show(0:Nat)=2 from hf) (by decide);cases hk
  |succ i=>simp at h1 h2;exact ih i o' f a h1 h2 hk (by simpa using hb)
theorem mN {o:Sim.Op1} {d a:Nat} (h:Sd o d=some a):o.guard=none/\o.dst=some a/\Nt o a=true/\∃ty es b zero g r,o.k=.append ty es b zero g/\o.xs=.t d::r:=by
 unfold Sd at h;split at h;rename_i h1 h2 h3 h4;split at h;rename_i hb;cases h;refine⟨h4,h3,?_,_,_,_,_,_,_,h1,by rw[h2,iW2 hb]⟩;unfold Nt;rw[h1,h3];exact Nat.beq_refl _;cases h;cases h
theorem Tr.flow {os:aA Sim.Op1} {σ τ:St} {fs:aA Foot} (h:Tr T N dr lim os σ fs τ):∀(d a:Nat),rV os d a=true->∀z,τ.t[a]? =some z->∃y,σ.t[d]? =some y/\∀x∈Sim.idOf y,x∈Sim.idOf z:=by
 induction h with
 |nil=>
  intro d a hf z c;simp only[rV]at hf;rw[iW2 hf];exact⟨z,c,fun x i=>i⟩
 |@skip o os σ τ fs hw h ih=>
  intro d a hf z c;simp only[rV,iS2,iD2]at hf;rcases hf with hf|hf;obtain⟨y,h1,h2⟩:=ih d a hf.2 z c;exact⟨y,by rw[<-h1];exact(lL hf.1).symm,h2⟩;split at hf;rename_i e hs;rw[(mN hs).1]at hw;simp[Sim.wanted]at hw;cases hf
 |@op o os σ τ fs xs out hw he hc hd h ih=>
  intro d a hf z c;simp only[rV,iS2,iD2]at hf;rcases hf with hf|hf;obtain⟨y,h1,h2⟩:=ih d a hf.2 z c;exact⟨y,by rw[<-h1];exact(lL hf.1).symm,h2⟩;split at hf;rename_i e hs;obtain⟨q1,q2,q3,ty,es,b,zero,g,r,q4,q5⟩:=mN hs;obtain⟨l,h1,h2⟩:=ih e a hf z c;obtain⟨m,k,n,p⟩:=Ck (T:=T) q3 hd
  have hv:l=out.v:=by
   have c:=h1;simp only at c;rw[q2]at c;simp only[put,jD2]at c;split at c;split at c;cases c;rfl;cases c;rename_i f;exact(f trivial).elim
  subst hv;rw[q5]at he;obtain⟨y,ys,rfl,j,e2⟩:=Nv he;refine⟨y,j,fun x i=>h2 x (k x ?_)⟩;rw[q4]at hd ⊢;rcases ys with _|⟨w,_|⟨w2,ws⟩⟩
  simp[doOp]at hd;exact i;simp[doOp]at hd;cases hf
 |@call o os σ τ fs xs v hw he hc hk hff hs h ih=>
  intro d a hf z c;simp only[rV,iS2,iD2]at hf;rcases hf with hf|hf;obtain⟨y,h1,h2⟩:=ih d a hf.2 z c;exact⟨y,by rw[<-h1];exact(lL hf.1).symm,h2⟩;split at hf;rename_i e hs;have:=(mM (T:=T) (.inr (.inr (mN hs).2.2.1))).1;rw[hc]at this;cases this;cases hf
 |@ncall o os σ τ fs xs v s' hw he hff hk hs h ih=>
  intro d a hf z c;simp only[rV,iS2,iD2]at hf;rcases hf with hf|hf;obtain⟨y,h1,h2⟩:=ih d a hf.2 z c;exact⟨y,by rw[<-h1];exact(lL hf.1).symm,h2⟩;split at hf;rename_i e hs;have:=(mM (T:=T) (.inr (.inr (mN hs).2.2.1))).2 xs;rw[hff]at this;cases this;cases hf
theorem Tr.touchL {os:aA Sim.Op1} {σ τ:St} {fs:aA Foot} (h:Tr T N dr lim os σ fs τ):∀(i:Nat) (o:Sim.Op1) (f:Foot) (a:Nat),os[i]? =some o->fs[i]? =some f->Xq os o i a=true->Xr f τ a:=by
 induction h with
 |nil=>intro i o f a h;simp at h
 |skip hw h ih=>
  intro i o f a h1 h2 hk;cases i with
  |zero=>simp at h1 h2;subst h1;subst h2;exact .inl rfl
  |succ i=>simp at h1 h2;exact ih i o f a h1 h2 (by simpa[Xq]using hk)
 |@op o os σ τ fs xs out hw he hc hd h ih=>
  intro i o' f a h1 h2 hk;cases i with
  |zero=>
   simp at h1 h2;subst h1;subst h2;unfold Xq at hk;split at hk;rename_i d g;simp only[iD2,List.drop_succ_cons,jX2]at hk;obtain⟨m,n,j,q⟩:=Ck (T:=T) hk.1 hd;refine .inr (fun z e=>?_);obtain⟨y,p,l⟩:=h.flow d a hk.2 z e
   have hv:y=out.v:=by
    have e:=p;simp only at e;rw[g]at e;simp only[put,jD2]at e;split at e;split at e;cases e;rfl;cases e;rename_i k;exact(k trivial).elim
   subst hv;refine⟨m,fun x c=>l x (n x c),fun x c=>l x ?_⟩;rcases j with j|j;have:=oI (s:=σ.s) j;simp only at c;rw[this]at c;simp at c;cases hn:out.new with
   |none=>
    have:=oI (s:=σ.s) hn;simp only at c;rw[this]at c;simp at c
   |some w=>
    simp only at c;rw[oU hn]at c;rw[j];exact c
   cases hk
  |succ i=>simp at h1 h2;exact ih i o' f a h1 h2 (by simpa[Xq]using hk)
 |@call o os σ τ fs xs v hw he hc hk hf hs h ih=>
  intro i o' f a h1 h2 b;cases i with
  |zero=>
   simp at h1 h2;subst h1;subst h2;unfold Xq at b;split at b;simp only[iD2]at b;have:=(mM (T:=T) (.inr (.inr b.1))).1;rw[hc]at this;cases this;cases b
  |succ i=>simp at h1 h2;exact ih i o' f a h1 h2 (by simpa[Xq]using b)
 |@ncall o os σ τ fs xs v s' hw he hf hk hs h ih=>
  intro i o' f a h1 h2 b;cases i with
  |zero=>
   simp at h1 h2;subst h1;subst h2;unfold Xq at b;split at b;simp only[iD2]at b;have:=(mM (T:=T) (.inr (.inr b.1))).2 xs;rw[hf]at this;cases this;cases b
  |succ i=>simp at h1 h2;exact ih i o' f a h1 h2 (by simpa[Xq]using b)
def Lh (τ:St) (p:Nat×Nat×Nat×Nat):Prop:=∃y z,τ.t[p.2.2.1]? =some y/\τ.t[p.2.2.2]? =some z/\∀x∈Sim.idOf y,x∉Sim.idOf z
theorem jP {f g:Foot} {τ:St} {p:Nat×Nat×Nat×Nat} (h:(Se f τ p.2.2.1/\kF1 g τ p.2.2.2)\/(Xr f τ p.2.2.1/\Se g τ p.2.2.2)) (m:Lh τ p):Sim.compat0 f g=true:=by
 obtain⟨y,z,hy,l,hd⟩:=m;rcases h with⟨h1,h2⟩|⟨h1,h2⟩
 rcases h2 with rfl|h2;rcases h1 with rfl|h1;rfl;obtain⟨a,b,c,d⟩:=h1 y hy;simp[Sim.compat0,b,c,d];obtain⟨a',b',k,j⟩:=h2 z l;rcases h1 with rfl|h1;simp[Sim.compat0,j];obtain⟨a,b,c,d⟩:=h1 y hy;have:∀x∈g.wr,x∉f.rd:=fun x i e=>by rw[a]at e;rw[a']at i;exact hd x e i
 simpa[Sim.compat0,b,c,d,b',k,j]using this;rcases h2 with rfl|h2;rcases h1 with rfl|h1;rfl;obtain⟨a,b,c⟩:=h1 y hy;simp[Sim.compat0,a];obtain⟨a',b',k,j⟩:=h2 z l;rcases h1 with rfl|h1;simp[Sim.compat0,j];obtain⟨a,b,c⟩:=h1 y hy;have n:∀x∈f.wr,x∉g.rd:=fun x i e=>by rw[a']at e;exact hd x (b x i) e
 have o:∀x∈f.al,x∉g.rd:=fun x i e=>by rw[a']at e;exact hd x (c x i) e
 simpa[Sim.compat0,a,b',k,j]using And.intro n o
theorem Nw {f g:Foot} {τ:St} {p:Nat×Nat×Nat×Nat} (h1:Se f τ p.2.2.1) (h2:Xr g τ p.2.2.2) (j:Lh τ p):Sim.compat0 f g=true:=by
 obtain⟨y,z,hy,h,hd⟩:=j;rcases h1 with rfl|h1;rcases h2 with rfl|h2;rfl;obtain⟨a',b',i⟩:=h2 z h;simp[Sim.compat0,a'];obtain⟨a,b,c,d⟩:=h1 y hy;rcases h2 with rfl|h2;simp[Sim.compat0,b,c,d];obtain⟨a',b',i⟩:=h2 z h;have:∀x∈g.wr,x∉f.rd:=fun x k e=>by rw[a]at e;exact hd x e (b' x k)
 simpa[Sim.compat0,b,c,d,a']using this
theorem Jc {ks before:aA Nat} {ex:aA (Nat×Nat×Nat×Nat)} (h:Lg ks before ex=true):∀(i l k k':Nat),i<l->ks[i]? =some k->ks[l]? =some k'->((before.getD l 0).testBit i=true\/jJ k k'=true)\/∃p∈ex,p.1=i/\p.2.1=l:=by
 intro i l k k' a hi hl;simp only[Lg,iM2,List.mem_range,iS2,List.any_eq_true,iD2]at h;rcases h l (iG2.1 hl).1 i a with h1|⟨p,h1,h2,h3⟩
 exact .inl (by simpa[List.getD,hi,hl]using h1);exact .inr ⟨p,h1,iW2 h2,iW2 h3⟩
theorem Tr.drawX (v:dr≠0) {before:aA Nat} {ex:aA (Nat×Nat×Nat×Nat)} {os:aA Sim.Op1} {σ τ:St} {fs:aA Foot} (h:Tr T N dr lim os σ fs τ) (J:Lg (os.map fun o=>kN N dr o.k) before ex=true)
  (E:ex.all (Nu os)=true) (m:∀p∈ex,Lh τ p):
  ∃D,∀d,D<=d->∃B,cZ T (exec T d) lim before os 0 [] σ=some (τ,B)/\Sim.drawOK before B B.length=true:=by
 let ft:Nat->Foot:=fun i=>fs.getD i {}
 have f:∀i,i<fs.length->fs[i]? =some (ft i):=fun i hi=>by simp[ft,hi]
 obtain⟨hl,g⟩:=h.feet v;have sp:=Jc J;have r:∀(i:Nat) (o:Sim.Op1),os[i]? =some o->(os.map fun o=>kN N dr o.k)[i]? =some (kN N dr o.k):=fun i o H=>by simp[H]
 have A:∀p∈ex,∃o q,os[p.1]? =some o/\os[p.2.1]? =some q/\Nu os p=true:=by
  intro p hp;have:=iM2.1 E p hp;have h2:=this;unfold Nu at h2;split at h2
  .rename_i o q h3 h4;exact⟨o,q,h3,h4,this⟩
  .cases h2
 obtain⟨D,O⟩:=Tr.foot v (before:=before) (ks:=os.map fun o=>kN N dr o.k) h 0 ft (fun i hi=>by rw[kC2];exact f i hi) (fun i o H=>by rw[kC2];exact r i o H)
  (fun i l k k' F h1 h2 G=>by
   rcases sp i l k k' F h1 h2 with h3|⟨p,hp,rfl,rfl⟩
   .exact h3
   .exfalso
    obtain⟨o,q,t,e2,e⟩:=A p hp;rw[r _ _ e2]at h2;cases h2;unfold Nu at e;rw[t,e2]at e;simp only[iD2,iS2]at e
    have P:Ns q p.2.2.2=true\/Pj q p.2.2.2=true\/Nt q p.2.2.2=true:=by
     rcases e with(e|e)|e
     .rcases e.2 with((h|h)|h)|h
      .exact .inr (.inl h.2)
      .exact .inl h.2
      .exact .inl h.2
      .exact .inl h.2
     .exact .inr (.inr e.2.1)
     .exact .inr (.inl e.2.1)
    have hc:=(mM (T:=T) P).1;revert G hc;cases q.k
    case len n=>simp only[kN];cases Nat.beq n 2<;>simp
    all_goals simp[kN,gX]) (fun i k hi=>by omega) (fun i hi=>by omega)
 refine⟨D,fun d hd=>⟨_,O d hd,?_⟩⟩;rw[kC2,Sim.revF_length];refine tO (fun j R i hi=>?_);have M:os[j]? =some os[j]:=by simp
 have oi:os[i]? =some (os[i]'(by omega)):=by simp
 rcases sp i j _ _ hi (r i _ oi) (r j _ M)with(h1|h1)|⟨p,hp,rfl,rfl⟩
 .exact .inl h1
 .right
  exact An (oH _ _ _) (oH _ _ _) h1 (g i _ _ oi (f i (by omega))) (g j _ _ M (f j (by omega)))
 .right
  obtain⟨o,q,t,e2,e⟩:=A p hp;unfold Nu at e;rw[t,e2]at e;simp only[iD2,iS2]at e;have K:=h.touch p.1 o _ p.2.2.1 t (f p.1 (by omega));have u:=h.touch p.2.1 q _ p.2.2.2 e2 (f p.2.1 (by omega));rcases e with(e|e)|e
  case inr.inr=>exact gC<|jP (.inl ⟨h.touchS p.1 o _ p.2.2.1 t (f p.1 (by omega)) e.1.1 e.1.2,u.2.1 e.2.1 e.2.2⟩) (m p hp)
  case inr.inl.inr=>exact gC<|Nw (K.1 e.1.1 e.1.2) (u.2.2 e.2.1 e.2.2) (m p hp)
  rcases e.2 with((⟨⟨h1,h2⟩,h3⟩|⟨⟨h1,h2⟩,h3⟩)|⟨⟨h1,h2⟩,h3⟩)|⟨h1,h3⟩
  .exact gC<|jP (.inl ⟨K.1 h1 h2,u.2.1 h3 e.1⟩) (m p hp)
  .exact gC<|jP (.inr ⟨K.2.2 h1 h2,u.1 h3 e.1⟩) (m p hp)
  .have C:=iW2 h1
   obtain⟨y,z,hy,L,hd⟩:=m p hp;rw[C]at hy;rw[hy]at L;cases L;have w:Sim.idOf y=[]:=List.eq_nil_iff_forall_not_mem.2 (fun x A=>hd x A A)
   have s:(ft p.1).all=0:=by
    have hf:=g p.1 o _ t (f p.1 (by omega));unfold tkM at h2;unfold lK at hf;split at h2
    .rename_i hk
     rw[hk]at hf;rcases hf with hf|hf
     .rw [hf]
     .exact hf.2.2
    .rename_i hk
     rw[hk]at hf;rcases hf with hf|hf
     .rw [hf]
     .exact hf
    .cases h2
   rcases u.1 h3 e.1 with hg|hg
   .refine gC ?_
    rw[hg];simp[Sim.compat0,s]
   .obtain ⟨a,b,c,d⟩:=hg y hy
    rw[w]at a;refine gC ?_;simp[Sim.compat0,s,a,b,c,d]
  .exact gC<|jP (.inr ⟨h.touchL p.1 o _ p.2.2.1 t (f p.1 (by omega)) h1,u.1 h3 e.1⟩) (m p hp)
end
end Go.P
namespace Go.P
open Go.Sim (AV AO Hp fA upd St IC IX Ex dV CK Wf Out doOp gO exec mapO lY vC Hg)
theorem vL {A:Type} {f:A->aB A}:∀{l:aA A},(∀x∈l,f x=some x)->mapO f l=some l
 |[],_=>rfl
 |a::as,h=>by
  have h1:=h a (List.mem_cons_self ..)
  have h2:=vL (f:=f) (l:=as) (fun x b=>h x (kI2 _ b))
  simp only[mapO,h1,h2]
section
variable {L:Nat->Option AO} {n0:Nat}
theorem xW {x:PV} {y:AV} {d:Nat} (h:RC true x y):lY L n0 (d+1) y=some y:=by
 cases h<;>rfl
theorem Cl {Q:PV->AV->Prop} {xs:aA PV} {ys:aA AV} (h:LR Q xs ys) {y:AV} (hy:y∈ys):∃x,x∈xs/\Q x y:=by
 obtain⟨j,a⟩:=jH2.1 hy;have b:j<xs.length:=by rw[h.1];exact(iG2.1 a).1
 exact⟨xs[j],by simp,h.2 j _ y (by simp) a⟩
theorem Ao {xs:aA PV} {ys:aA AV} {d:Nat} (h:LR (RC true) xs ys):mapO (lY L n0 (d+1)) ys=some ys:=
 vL fun y hy=>by
  obtain⟨x,_,a⟩:=Cl h hy
  exact xW a
theorem Xu {rows:aA (aA PV)} {els:aA (aA AV)} {d:Nat} (h:RR rows els):mapO (fun row=>mapO (lY L n0 (d+1)) row) els=some els:=
 vL fun r hr=>by
  obtain⟨j,a⟩:=jH2.1 hr
  have b:j<rows.length:=by rw[h.1];exact(iG2.1 a).1
  exact Ao (h.2 j rows[j] r (by simp) a)
theorem Li {rows:aA (aA PV)} {els:aA (aA AV)} {d e id ver:Nat} {bx:Bool} {ty:TypeId} (c:n0<=id) (a:L id=some (.arr bx ty e ver els)) (hr:RR rows (els.take rows.length)) (b:rows.length<=els.length):
  lY L n0 (d+2) (.sl e id ver 0 rows.length none)=some (.is e (els.take rows.length)):=by
 have hc:n0<=id/\ver=ver/\0+rows.length<=els.length:=⟨c,rfl,by omega⟩
 show(match L id with
   |some (.arr _ _ e ver' els)=>
    if n0<=id/\ver'=ver/\0+rows.length<=els.length then(mapO (fun row=>mapO (lY L n0 (d+1)) row) ((els.drop 0).take rows.length)).map fun rows=>AV.is e rows else none
   |_=>none)=_
 rw[a];show(if n0<=id/\ver=ver/\0+rows.length<=els.length then(mapO (fun row=>mapO (lY L n0 (d+1)) row) ((els.drop 0).take rows.length)).map fun rows=>AV.is e rows else none)=_
 rw[iJ2 hc,jX2,Xu hr];rfl
theorem dX1 {Q Q':PV->AV->Prop} {f:AV->aB AV} (hf:∀x y,Q x y->∃b,f y=some b/\Q' x b):∀{xs:aA PV} {ys:aA AV},LR Q xs ys->∃a,mapO f ys=some a/\LR Q' xs a
 |[],ys,h=>by rw[h.inv_nil];exact⟨[],rfl,.nil⟩
 |x::xs,ys,h=>by
  obtain⟨y,a,rfl,h1,h2⟩:=h.inv_cons
  obtain⟨b,c,d⟩:=hf x y h1
  obtain⟨zs,e,g⟩:=dX1 hf h2
  exact⟨b::zs,by simp only[mapO,c,e],.cons d g⟩
theorem Sf {z:Nat->aB AO} {d:Nat} {f:AV->aB AV} (hf:∀x y,RZ z d x y->∃g,f y=some g/\RC true x g):∀{rows:aA (aA PV)} {els:aA (aA AV)},Ac z d rows els->∃c,mapO (fun row=>mapO f row) els=some c/\RR rows c
 |[],els,h=>by
  have:els=[]:=kR2 h.1.symm
  subst this
  exact⟨[],rfl,.nil⟩
 |r::rows,[],h=>by have:=h.1;simp at this
 |r::rows,e::els,h=>by
  obtain⟨e',k,l⟩:=dX1 hf (h.2 0 r e rfl rfl)
  obtain⟨es',m,n⟩:=Sf hf (rows:=rows) (els:=els) ⟨by simpa using h.1,fun i a b j hb=>h.2 (i+1) a b (by simpa using j) (by simpa using hb)⟩
  exact⟨e'::es',by simp only[mapO,k,m],.cons l n⟩
theorem Lj {z:Nat->aB AO} (g:∀id o,z id=some o->n0<=id/\L id=some o):∀(d f:Nat),d<f->∀(x:PV) (y:AV),RZ z d x y->∃j,lY L n0 f y=some j/\RC true x j
 |0,f+1,_,x,y,h=>⟨y,xW h,h⟩
 |d+1,f+1,hd,x,y,h=>by
  rcases h with h|⟨e,rows,id,ver,ty,els,rfl,rfl,h3,h4,h5⟩
  exact⟨y,xW h,h⟩
  have ih:=Lj g d f (by omega)
  have hr:Ac z d rows (els.take rows.length):=⟨by simp[Nat.min_eq_left h4],fun i r r' a b=>h5 i r r' a (by
   rw[jP2]at b
   split at b
   exact b
   cases b)⟩
  obtain⟨c,k,l⟩:=Sf (f:=lY L n0 f) (fun x y h=>ih x y h) hr
  obtain⟨z1,z2⟩:=g id _ h3
  refine⟨.is e c,?_,l.is⟩
  show(match L id with
   |some (.arr _ _ e ver' els)=>
    if n0<=id/\ver'=ver/\0+rows.length<=els.length then(mapO (fun row=>mapO (lY L n0 f) row) ((els.drop 0).take rows.length)).map fun rows=>AV.is e rows else none
   |_=>none)=_
  rw[z2]
  show(if n0<=id/\ver=ver/\0+rows.length<=els.length then(mapO (fun row=>mapO (lY L n0 f) row) ((els.drop 0).take rows.length)).map fun rows=>AV.is e rows else none)=_
  rw[iJ2 ⟨z1,rfl,by omega⟩,jX2,k]
  rfl
theorem dY1 {z:Nat->aB AO} (g:∀id o,z id=some o->n0<=id/\L id=some o) {d f e id ver ty:Nat} {rows:aA (aA PV)} {els:aA (aA AV)} (hd:d<f) (c:n0<=id) (b:L id=some (.arr false ty e ver els)) (hr:Ac z d rows els):
  ∃a,lY L n0 (f+1) (.sl e id ver 0 rows.length none)=some (.is e a)/\RR rows a:=by
 obtain⟨a,i,j⟩:=Sf (f:=lY L n0 f) (fun x y h=>Lj g d f hd x y h) hr;refine⟨a,?_,j⟩;have hl:=hr.1
 show(match L id with
  |some (.arr _ _ e ver' els)=>
   if n0<=id/\ver'=ver/\0+rows.length<=els.length then(mapO (fun row=>mapO (lY L n0 f) row) ((els.drop 0).take rows.length)).map fun rows=>AV.is e rows else none
  |_=>none)=_
 rw[b];show(if n0<=id/\ver=ver/\0+rows.length<=els.length then(mapO (fun row=>mapO (lY L n0 f) row) ((els.drop 0).take rows.length)).map fun rows=>AV.is e rows else none)=_
 rw[iJ2 ⟨c,rfl,by omega⟩,jX2,hl,List.take_length,i];rfl
theorem Xv {d id ver e o:Nat} {bx:Bool} {ty:TypeId} {esz:Nat} {els:aA (aA AV)} {row:aA AV} (a:L id=some (.arr bx ty esz ver els)) (hr:els[e]? =some row):vC L (d+1) (.ptr id ver e o)=(mapO (vC L d) (row.drop o)).map AV.ip:=by
 simp[vC,a,hr]
theorem gK1 {d:Nat} {f:FuncId} {a b a' b':aA AV} (h1:mapO (vC L d) a=some a') (h2:mapO (vC L d) b=some b'):vC L (d+1) (.fn (.func f) a b)=some (.fn (.func f) a' b'):=by
 simp[vC,h1,h2]
theorem Xw {d:Nat} {a a':aA AV} (h1:mapO (vC L d) a=some a'):vC L (d+1) (.agg a)=some (.agg a'):=by
 simp[vC,h1]
theorem dZ1 {x:PV} {y:AV} (h:RK x y):Hg L n0 y=some y:=by
 rcases h with h|⟨cs,cs',rfl,rfl,h⟩
 cases h<;>rfl;simp only[Hg,Ao h,jC2]
theorem Sg {es:aA (PV×PV)} {es':aA (AV×AV)} (h:EM es es'):mapO (fun(k,x)=>match Hg L n0 k,Hg L n0 x with|some k,some x=>some (k,x)|_,_=>none) es'=some es':=
 vL fun p hp=>by
  obtain⟨j,c⟩:=jH2.1 hp
  have d:j<es.length:=by rw[h.1];exact(iG2.1 c).1
  obtain⟨h1,h2⟩:=h.2 j es[j] p (by simp) c
  obtain⟨a,b⟩:=p
  simp only[dZ1 h1,dZ1 h2]
end
section
variable {R:Type} {C:Cx} {n:Nat} {h:aT} {lim:Nat} {s:Hp}
theorem Ap:∀{d:Nat} {x:PV} {y:AV},dA d x=true->RC false x y->Sim.closed d y=true
 |0,_,_,h,_=>by simp[dA]at h
 |d+1,x,y,hc,hr=>by
  have all:∀{xs:aA PV} {ys:aA AV},xs.all (dA d)=true->LR (RC false) xs ys->ys.all (Sim.closed d)=true:=by
   intro xs ys c hl;rw[iM2];intro y hy;obtain⟨x,a,b⟩:=Cl hl hy;exact Ap (iM2.1 c x a) b
  cases hr with
  |fn h1 h2 v1 v2=>
   simp only[dA,iD2]at hc;simp only[Sim.closed,iD2];exact⟨all hc.1 ⟨h1,v1⟩,all hc.2 ⟨h2,v2⟩⟩
  |agg hl hcc=>
   simp only[dA]at hc;simp only[Sim.closed];exact all hc ⟨hl,hcc⟩
  |tup hl hcc=>
   simp only[dA]at hc;simp only[Sim.closed];exact all hc ⟨hl,hcc⟩
  |_=>rfl
def FzR (L:Nat->aB AO) (d:Nat) (a:PV) (y:AV):Prop:=∃b,vC L d y=some b/\RC false a b/\∀D,Sim.closed D y=true->RC false a y
theorem Lk (m:cM C n h lim s):∀(d:Nat) (x:PV) (y:AV) (K:PV->aB R) (r:R),Cd h d x K=some r->RV C x y->∃N,K N=some r/\FzR (Sim.look s.h) (d+1) N y
 |0,x,y,K,r,hk,_=>by unfold Cd at hk;exact aD hk
 |d+1,x,y,K,r,hk,hv=>by
  have i:∀(xs:aA PV) (ys:aA AV) (K:aA PV->aB R) (r:R),pE (Cd h d) xs K=some r->LR (RV C) xs ys->
    ∃xs' j,K xs'=some r/\mapO (vC (Sim.look s.h) (d+1)) ys=some j/\LR (RC false) xs' j/\((∀y∈ys,∃D,Sim.closed D y=true)->LR (RC false) xs' ys):=by
   intro xs
   induction xs with
   |nil=>
    intro ys K r hk hl;rw[hl.inv_nil];unfold pE at hk;exact⟨[],[],hk,rfl,.nil,fun _=>.nil⟩
   |cons a as ih=>
    intro ys K r hk hl;obtain⟨y,j,rfl,h1,h2⟩:=hl.inv_cons;unfold pE at hk;obtain⟨a',w,b',t,O,P⟩:=Lk m d a y _ r hk h1;obtain⟨B,E,q1,q2,q3,q4⟩:=ih j _ r w h2;refine⟨a'::B,b'::E,q1,by simp only[mapO,t,q2],.cons O q3,fun hc=>?_⟩;obtain⟨D,c⟩:=hc y (by simp);exact .cons (P D c) (q4 fun z p=>hc z (by simp[p]))
  unfold Cd at hk;cases x with
  |own k=>
   simp only[eK,iC2]at hk;obtain⟨ob,hg,hk⟩:=hk;cases ob with
   |lst ty e g rows=>
    refine⟨_,hk,?_⟩;rcases kY hv with⟨id,ver,F,len,l,rfl⟩|⟨l,rfl⟩
    obtain⟨_,rfl,hlen,els,q,hr,G,_⟩:=iJ m hg l;subst hlen;refine⟨.is F (els.take rows.length),?_,hr.is,fun D c=>by cases D<;>simp[Sim.closed]at c⟩;exact Li (d:=4) (iV2 _) q hr G;have:=jO m hg l;subst this;exact⟨_,rfl,.isn,fun _ _=>.isn⟩
   |lz ty e dp rows=>
    cases hb:Nat.ble dp 4 with
    |false=>simp only[hb,jG2]at hk;exact aD hk
    |true=>
    simp only[hb,iT2]at hk;have hb:=jK2 hb;refine⟨_,hk,?_⟩;rcases kY hv with⟨id,ver,F,len,l,rfl⟩|⟨l,rfl⟩
    obtain⟨_,_,rfl,hlen,_,els,q,hr⟩:=uU m hg l;subst hlen;obtain⟨A,w,t⟩:=dY1 (n0:=0) (f:=5) (fun id o p=>⟨iV2 _,(m.hr.zr id o p).1⟩) (by omega) (iV2 _) q hr;exact⟨.is F A,w,t.is,fun D c=>by cases D<;>simp[Sim.closed]at c⟩;have:=tM m hg l;subst this;exact⟨_,rfl,.isn,fun _ _=>.isn⟩
   |_=>exact aD hk
  |zs dp e rows=>
   cases hb:Nat.ble dp 5 with
   |false=>simp only[hb,jG2]at hk;exact aD hk
   |true=>
   simp only[hb,iT2]at hk;have hb:=jK2 hb;refine⟨_,hk,?_⟩;have p:=Ag hv;obtain⟨T,w,t⟩:=Lj (L:=Sim.look s.h) (n0:=0) (fun id o p=>⟨iV2 _,(m.hr.zr id o p).1⟩) dp 6 (by omega) _ _ p;rcases Ah p with(⟨rows',rfl,hr⟩|⟨rfl,rfl⟩)|⟨d',id,ver,ty,els,_,rfl,_,_,_⟩
   exact⟨_,rfl,hr.is,fun _ _=>hr.is⟩;exact⟨_,rfl,.isn,fun _ _=>.isn⟩;exact⟨T,w,t.weak,fun D c=>by cases D<;>simp[Sim.closed]at c⟩
  |map k=>
   simp only[eK,iC2]at hk;obtain⟨ob,hg,hk⟩:=hk;cases ob with
   |mp es=>
    refine⟨_,hk,?_⟩;obtain⟨id,ver,e,len,l,rfl⟩:=tK hv;obtain⟨_,es',q,he⟩:=Fo m hg l;refine⟨.im es',?_,he.er.im,fun D c=>by cases D<;>simp[Sim.closed]at c⟩;simp only[vC,q];exact congrArg (Option.map AV.im) (Sg he)
   |_=>exact aD hk
  |ref k o=>
   simp only[eK,iC2]at hk;obtain⟨ob,hg,hk⟩:=hk;cases ob with
   |box cs=>
    obtain⟨w,t⟩:=dL _ _ _ _ hk;obtain⟨id,ver,e,len,l,rfl⟩:=jI hv;obtain⟨_,ty,esz,row,q,hl⟩:=qD m hg l;obtain⟨xs',j,q1,q2,q3,_⟩:=i _ _ _ r t (hl.drop o);refine⟨_,q1,.ip j,?_,.ip q3.1 q3.2,fun D c=>by cases D<;>simp[Sim.closed]at c⟩;rw[Xv q rfl,q2];rfl
   |_=>exact aD hk
  |fn f a b=>
   obtain⟨a',b',rfl,h1,h2⟩:=uT hv;obtain⟨H,u,p1,p2,p3,p4⟩:=i _ _ _ r hk h1;obtain⟨S,J,q1,q2,q3,q4⟩:=i _ _ _ r p1 h2;refine⟨_,q1,.fn (.func f) u J,gK1 p2 q2,.fn p3.1 q3.1 p3.2 q3.2,fun D c=>?_⟩;cases D with
   |zero=>simp[Sim.closed]at c
   |succ D=>
    simp only[Sim.closed,iD2,iM2]at c;have w1:=p4 fun y hy=>⟨D,c.1 y hy⟩
    have M:=q4 fun y hy=>⟨D,c.2 y hy⟩
    exact .fn w1.1 M.1 w1.2 M.2
  |agg cs=>
   obtain⟨cs',rfl,h1⟩:=lJ hv;obtain⟨H,u,p1,p2,p3,p4⟩:=i _ _ _ r hk h1;refine⟨_,p1,.agg u,Xw p2,.agg p3.1 p3.2,fun D c=>?_⟩;cases D with
   |zero=>simp[Sim.closed]at c
   |succ D=>
    simp only[Sim.closed,iM2]at c;have w1:=p4 fun y hy=>⟨D,c y hy⟩
    exact .agg w1.1 w1.2
  |v x=>
   rw[eQ hv];exact⟨_,hk,_,rfl,.v x,fun _ _=>.v x⟩
  |is e rows=>
   refine⟨_,hk,?_⟩;rcases Cf hv with⟨rows',rfl,hr⟩|⟨rfl,rfl⟩
   exact⟨_,rfl,hr.is,fun _ _=>hr.is⟩;exact⟨_,rfl,.isn,fun _ _=>.isn⟩
  |ip cs=>
   obtain⟨cs',rfl,hl⟩:=Af hv;exact⟨_,hk,_,rfl,.ip hl.1 hl.2,fun _ _=>.ip hl.1 hl.2⟩
  |im es=>
   obtain⟨es',rfl,he⟩:=dS1 hv;exact⟨_,hk,_,rfl,he.im,fun _ _=>he.im⟩
  |_=>exact aD hk
theorem uY (e:cM C n h lim s):∀(xs:aA PV) (ys:aA AV) (K:aA PV->aB R) (r:R),vJ h xs K=some r->LR (RV C) xs ys->
  ∃xs' b,K xs'=some r/\mapO (vC (Sim.look s.h) 6) ys=some b/\LR (RC false) xs' b/\((∀y∈ys,∃D,Sim.closed D y=true)->LR (RC false) xs' ys)
 |[],ys,K,r,hk,hl=>by
  rw[hl.inv_nil]
  exact⟨[],[],hk,rfl,.nil,fun _=>.nil⟩
 |a::as,ys,K,r,hk,hl=>by
  obtain⟨y,b,rfl,h1,h2⟩:=hl.inv_cons
  unfold vJ at hk
  obtain⟨a',i,b',j,k,l⟩:=Lk e 5 a y _ r hk h1
  obtain⟨c,d,q1,q2,q3,q4⟩:=uY e as b _ r i h2
  refine⟨a'::c,b'::d,q1,by simp only[mapO,j,q2],.cons k q3,fun hc=>?_⟩
  obtain⟨D,f⟩:=hc y (by simp)
  exact .cons (l D f) (q4 fun z g=>hc z (by simp[g]))
def mO (T:gO) (f:FuncId) (xs:aA PV) (v:PV):Prop:=
 ∃ifn,T f=some ifn/\ifn.pure=true/\(qA 4 v=true->ifn.frz=true)/\∀ys,LR (RC false) xs ys->∃D,∀d,D<=d->∃y,Sim.runP T (exec T d) f ifn ys=some y/\RC false v y
theorem Sh:∀{d:Nat} {x:PV} {y:AV},qA d x=true->RC false x y->Sim.gnd d y=true
 |0,_,_,h,_=>by simp[qA]at h
 |d+1,x,y,hc,hr=>by
  have all:∀{xs:aA PV} {ys:aA AV},xs.all (qA d)=true->LR (RC false) xs ys->ys.all (Sim.gnd d)=true:=by
   intro xs ys c hl;rw[iM2];intro y hy;obtain⟨x,a,b⟩:=Cl hl hy;exact Sh (iM2.1 c x a) b
  cases hr with
  |v x=>rfl
  |agg hl hcc=>simp only[qA]at hc;simp only[Sim.gnd];exact all hc ⟨hl,hcc⟩
  |tup hl hcc=>simp only[qA]at hc;simp only[Sim.gnd];exact all hc ⟨hl,hcc⟩
  |_=>simp[qA]at hc
theorem Fu {T:gO} {O:sP} (q:∀f xs v,O f xs=some v->mO T f xs v) (t:cM C n h lim s) {f:FuncId} {xs:aA PV} {ys:aA AV} {K:PV->aB R} {r:R} (hk:uQ O f xs h K=some r) (o:LR (RV C) xs ys):
  ∃v y,K v=some r/\RC false v y/\(∃ifn,T f=some ifn/\ifn.pure=true)/\∃D,∀d,D<=d->∀m,Sim.callF T (exec T d) lim f ys {h:=s.h,n:=m}=some (y,{h:=s.h,n:=m}):=by
 unfold uQ at hk;by_cases hc:xs.all (dA 4)=true;rw[hc,iT2,bT,iC2]at hk;obtain⟨v,hv,hk⟩:=hk;rw[Lb]at hk;obtain⟨ifn,h1,h2,h3,h4⟩:=q f xs v hv;have i:LR (RC false) xs ys:=⟨o.1,fun j x y a b=>Al (o.2 j x y a b) (iM2.1 hc x (iN2 a))⟩
 have c:ys.all (Sim.closed 4)=true:=by
  rw[iM2];intro y hy;obtain⟨x,u,w⟩:=Cl i hy;exact Ap (iM2.1 hc x u) w
 obtain⟨D,g⟩:=h4 ys i;obtain⟨y,k,e⟩:=g D (iH2 _);refine⟨v,y,hk,e,⟨ifn,h1,h2⟩,D,fun d hd m=>?_⟩;simp only[Sim.callF,h1,h2,jJ2,c,Sim.mono_runP (Sim.mono_le T hd) k,jC2];simp only[Bool.not_eq_true]at hc;rw[hc,jG2]at hk;obtain⟨xs',p,q1,q2,q3,q4⟩:=uY t xs ys _ r hk o;rw[bT,iC2]at q1;obtain⟨v,hv,q1⟩:=q1;rw[Lb]at q1;cases hg:qA 4 v with
 |false=>rw[hg]at q1;exact aD q1
 |true=>
  rw[hg,iT2]at q1;obtain⟨ifn,h1,h2,h3,h4⟩:=q f xs' v hv;by_cases c:ys.all (Sim.closed 4)=true;obtain⟨D,g⟩:=h4 ys (q4 fun y hy=>⟨4,iM2.1 c y hy⟩);obtain⟨y,k,e⟩:=g D (iH2 _);refine⟨v,y,q1,e,⟨ifn,h1,h2⟩,D,fun d hd m=>?_⟩;simp only[Sim.callF,h1,h2,jJ2,c,Sim.mono_runP (Sim.mono_le T hd) k,jC2];obtain⟨D,g⟩:=h4 p q3;obtain⟨y,k,e⟩:=g D (iH2 _);have l:=Sh hg e;refine⟨v,y,q1,e,⟨ifn,h1,h2⟩,D,fun d hd m=>?_⟩;simp only[Sim.callF,h1,h2,h3 hg,jJ2,q2,Sim.mono_runP (Sim.mono_le T hd) k,l];rw[iL2 c]
end
end Go.P
namespace Go.P
open Go.Sim (AV AO Hp fA upd St IC IX Ex dV CK Wf Out doOp gO exec)
section
variable {R:Type} {C:Cx} {n:Nat} {h:aT} {lim:Nat} {s:Hp}
def jQ (k:Nat) (C C':Cx):Prop:=(∀j,j≠k->C' j=C j)/\∀id o,C.z id=some o->C'.z id=some o
theorem Fv {C':Cx} {k:Nat} (m:jQ k C C'):∀(d:Nat) (x:PV) (y:AV) (K:PV->aB R) (r:R),dG k d x K=some r->RV C x y->∃q,K q=some r/\RV C' q y
 |0,x,y,K,r,hk,_=>by unfold dG at hk;exact⟨_,hk,.undef⟩
 |d+1,x,y,K,r,hk,hv=>by
  have c:∀(xs:aA PV) (ys:aA AV) (K:aA PV->aB R) (r:R),dG.kills k d xs K=some r->LR (RV C) xs ys->∃xs',K xs'=some r/\LR (RV C') xs' ys:=by
   intro xs
   induction xs with
   |nil=>
    intro ys K r hk hl;rw[hl.inv_nil];unfold dG.kills at hk;exact⟨[],hk,.nil⟩
   |cons a as ih=>
    intro ys K r hk hl;obtain⟨y,p,rfl,h1,h2⟩:=hl.inv_cons;unfold dG.kills at hk;obtain⟨a',t,u⟩:=Fv m d a y _ r hk h1;obtain⟨n,q1,q2⟩:=ih p _ r t h2;exact⟨a'::n,q1,.cons u q2⟩
  have other:∀{pl:aB Pl} {j:Nat},C j=pl->j≠k->C' j=pl:=fun h s=>(m.1 _ s).trans h;unfold dG at hk;cases x with
  |zs d e rows=>exact⟨_,hk,.zs (RZ.mono m.2 (Ag hv))⟩
  |zm es=>
   rcases dT1 hv with⟨id,es',rfl,h1,h2⟩|⟨rfl,rfl⟩
   exact⟨_,hk,.zm (m.2 _ _ h1) h2⟩;exact⟨_,hk,.zm0⟩
  |own j=>
   simp only[bK]at hk;by_cases e:j=k;rw[jR2 e]at hk;exact⟨_,hk,.undef⟩;rw[jV2 e]at hk;refine⟨_,hk,?_⟩;rcases kY hv with⟨id,ver,l,len,hc,rfl⟩|⟨hc,hy⟩
   exact .own (other hc e);exact .ownn (other hc e) hy
  |el j i o=>
   simp only[bK]at hk;by_cases e:j=k;rw[jR2 e]at hk;exact⟨_,hk,.undef⟩;rw[jV2 e]at hk;obtain⟨id,ver,l,len,hc,rfl⟩:=xO hv;exact⟨_,hk,.el (other hc e)⟩
  |fn f a b=>
   obtain⟨a',b',rfl,h1,h2⟩:=uT hv;obtain⟨g,p1,p2⟩:=c _ _ _ r hk h1;obtain⟨w,q1,q2⟩:=c _ _ _ r p1 h2;exact⟨_,q1,.fn p2.1 q2.1 p2.2 q2.2⟩
  |agg cs=>
   obtain⟨cs',rfl,h1⟩:=lJ hv;obtain⟨g,p1,p2⟩:=c _ _ _ r hk h1;exact⟨_,p1,.agg p2.1 p2.2⟩
  |tup cs=>
   obtain⟨cs',rfl,h1⟩:=Iw hv;obtain⟨g,p1,p2⟩:=c _ _ _ r hk h1;exact⟨_,p1,.tup p2.1 p2.2⟩
  |ref j o=>
   simp only[bK]at hk;by_cases e:j=k;rw[jR2 e]at hk;exact⟨_,hk,.undef⟩;rw[jV2 e]at hk;obtain⟨id,ver,l,len,hc,rfl⟩:=jI hv;exact⟨_,hk,.ref (other hc e)⟩
  |map j=>
   simp only[bK]at hk;by_cases e:j=k;rw[jR2 e]at hk;exact⟨_,hk,.undef⟩;rw[jV2 e]at hk;obtain⟨id,ver,l,len,hc,rfl⟩:=tK hv;exact⟨_,hk,.map (other hc e)⟩
  |yld j=>
   simp only[bK]at hk;by_cases e:j=k;rw[jR2 e]at hk;exact⟨_,hk,.undef⟩;rw[jV2 e]at hk;obtain⟨id,ver,l,len,hc,rfl⟩:=Cg hv;exact⟨_,hk,.yld (other hc e)⟩
  |v x=>rw[eQ hv];exact⟨_,hk,.cl (.v x)⟩
  |is e rows=>exact⟨_,hk,.cl (by cases hv with|cl h=>exact h)⟩
  |ip cs=>exact⟨_,hk,.cl (by cases hv with|cl h=>exact h)⟩
  |im es=>exact⟨_,hk,.cl (by cases hv with|cl h=>exact h)⟩
  |undef=>exact⟨_,hk,.undef⟩
theorem Fw {k:Nat}:∀(d:Nat) (x:PV) (K:PV->aB R) (r:R),dG k d x K=some r->∃g,K g=some r/\∀{C C':Cx} {y:AV},jQ k C C'->RV C x y->RV C' g y
  |d,x,K,r,hk=>by
    have det:∃g,(∀{R:Type} (K:PV->aB R),dG k d x K=K g):=by
      have p:∀(d:Nat) (x:PV),∃g,∀{R:Type} (K:PV->aB R),dG k d x K=K g:=by
        intro d
        induction d with
        |zero=>intro x;exact⟨.undef,fun K=>by unfold dG;rfl⟩
        |succ d ih=>
          have c:∀(xs:aA PV),∃xs',∀{R:Type} (K:aA PV->aB R),dG.kills k d xs K=K xs':=by
            intro xs
            induction xs with
            |nil=>exact⟨[],fun K=>by unfold dG.kills;rfl⟩
            |cons a as ihl=>
              obtain⟨a',h⟩:=ih a;obtain⟨m,n⟩:=ihl;exact⟨a'::m,fun K=>by unfold dG.kills;rw[h,n]⟩
          intro x;cases x with
          | own j => by_cases e:j=k
                     exact⟨.undef,fun K=>by unfold dG;simp[bK,e]⟩;exact⟨.own j,fun K=>by unfold dG;simp[bK,e]⟩
          | el j i o => by_cases e:j=k
                        exact⟨.undef,fun K=>by unfold dG;simp[bK,e]⟩;exact⟨.el j i o,fun K=>by unfold dG;simp[bK,e]⟩
          | ref j o => by_cases e:j=k
                       exact⟨.undef,fun K=>by unfold dG;simp[bK,e]⟩;exact⟨.ref j o,fun K=>by unfold dG;simp[bK,e]⟩
          |zs d e rows=>exact⟨.zs d e rows,fun K=>by unfold dG;rfl⟩
          |zm es=>exact⟨.zm es,fun K=>by unfold dG;rfl⟩
          | map j => by_cases e:j=k
                     exact⟨.undef,fun K=>by unfold dG;simp[bK,e]⟩;exact⟨.map j,fun K=>by unfold dG;simp[bK,e]⟩
          | yld j => by_cases e:j=k
                     exact⟨.undef,fun K=>by unfold dG;simp[bK,e]⟩;exact⟨.yld j,fun K=>by unfold dG;simp[bK,e]⟩
          |fn f a b=>
            obtain⟨a',h⟩:=c a;obtain⟨b',hb⟩:=c b;exact⟨.fn f a' b',fun K=>by unfold dG;simp only[h,hb]⟩
          |agg cs=>
            obtain⟨a',h⟩:=c cs;exact⟨.agg a',fun K=>by unfold dG;simp only[h]⟩
          |tup cs=>
            obtain⟨a',h⟩:=c cs;exact⟨.tup a',fun K=>by unfold dG;simp only[h]⟩
          |v x=>exact⟨.v x,fun K=>by unfold dG;rfl⟩
          |is e rows=>exact⟨.is e rows,fun K=>by unfold dG;rfl⟩
          |ip cs=>exact⟨.ip cs,fun K=>by unfold dG;rfl⟩
          |im es=>exact⟨.im es,fun K=>by unfold dG;rfl⟩
          |undef=>exact⟨.undef,fun K=>by unfold dG;rfl⟩
      exact p d x
    obtain⟨g,l⟩:=det;refine⟨g,by rw[<-hk];exact(l K).symm,fun{C C' y} q hv=>?_⟩;obtain⟨s,h1,h2⟩:=Fv (R:=PV) q d x y some g (l some) hv;cases h1;exact h2
def kG1 (k:Nat) (e e':dZ):Prop:=∀i v',dR e' i=some v'->∃v,dR e i=some v/\∀{C C':Cx} {y:AV},jQ k C C'->RV C v y->RV C' v' y
theorem iQ {k:Nat}:∀(e:dZ) (K:dZ->aB R) (r:R),nC k e K=some r->∃e',K e'=some r/\kG1 k e e'
 |[],K,r,hk=>⟨[],hk,fun i v h=>by simp[dR]at h⟩
 |(j,v)::t,K,r,hk=>by
  unfold nC at hk
  obtain⟨v',a,c⟩:=Fw 3 v _ r hk
  obtain⟨b,q1,q2⟩:=iQ t _ r a
  refine⟨(j,v')::b,q1,fun i w hw=>?_⟩
  simp only[dR]at hw ⊢
  split at hw
  grind
  rename_i e;rw[iL2 e];exact q2 i w hw
def xX (k:Nat) (h h':aT):Prop:=(∀j,aM h' j=none↔aM h j=none)/\∀j o',aM h' j=some o'->∃o,aM h j=some o/\eO o'=eO o/\
 ∀{C C':Cx} {L:Nat->aB AO} {lim nS:Nat} {pl:Pl},jQ k C C'->iO C L lim nS o pl->iO C' L lim nS o' pl
theorem xY {k d:Nat}:∀(xs:aA PV) (K:aA PV->aB R) (r:R),dG.kills k d xs K=some r->∃xs',K xs'=some r/\∀{C C':Cx} {ys:aA AV},jQ k C C'->LR (RV C) xs ys->LR (RV C') xs' ys
 |[],K,r,hk=>by
  unfold dG.kills at hk
  exact⟨[],hk,fun _ hl=>by rw[hl.inv_nil];exact .nil⟩
 |a::as,K,r,hk=>by
  unfold dG.kills at hk
  obtain⟨a',e,f⟩:=Fw d a _ r hk
  obtain⟨b,q1,q2⟩:=xY as _ r e
  refine⟨a'::b,q1,fun c hl=>?_⟩
  obtain⟨y,g,rfl,h1,h2⟩:=hl.inv_cons
  exact .cons (f c h1) (q2 c h2)
theorem gL1 {C C':Cx} {fs b:aA PV} {els:aA (aA AV)} (h:∀{ys:aA AV},LR (RV C) fs ys->LR (RV C') b ys) (hl:els.length=fs.length) (hr:∀(i:Nat) (f:PV) (row:aA AV),fs[i]? =some f->els[i]? =some row->LR (RV C) [f] row):
  fs.length=b.length/\els.length=b.length/\∀(i:Nat) (f:PV) (row:aA AV),b[i]? =some f->els[i]? =some row->LR (RV C') [f] row:=by
 have hy:=h (ys:=els.map fun r=>r.headD default) ⟨by simp[hl],fun j x y m hy=>by
  simp only[jE2,iE2]at hy;obtain⟨row,a,rfl⟩:=hy;obtain⟨y,g,rfl,k,l⟩:=(hr j x row m a).inv_cons;exact k⟩
 have hlen:b.length=els.length:=by simpa using hy.1
 refine⟨by omega,by omega,fun i f row hf a=>?_⟩
 have e:∃c,fs[i]? =some c:=by
  have:=(iG2.1 a).1;exact⟨fs[i]'(by omega),by simp⟩
 obtain⟨c,d⟩:=e;obtain⟨y,g,rfl,k,l⟩:=(hr i c row d a).inv_cons;rw[l.inv_nil];exact .cons (hy.2 i f y hf (by simp[jE2,a])) .nil
theorem jV {k:Nat}:∀(h:aT) (K:aT->aB R) (r:R),jA k h K=some r->∃h',K h'=some r/\xX k h h'
 |[],K,r,hk=>⟨[],hk,fun j=>Iff.rfl,fun j o h=>by simp[aM]at h⟩
 |(j,o)::t,K,r,hk=>by
  have fin:∀(o':gD),jA k t (fun r=>K ((j,o')::r))=some r->eO o'=eO o->(∀{C C':Cx} {L:Nat->aB AO} {lim nS:Nat} {pl:Pl},jQ k C C'->iO C L lim nS o pl->iO C' L lim nS o' pl)->∃h',K h'=some r/\xX k ((j,o)::t) h':=by
   intro o' hk hb d;obtain⟨s,q1,q2,q3⟩:=jV t _ r hk;refine⟨(j,o')::s,q1,fun i=>?_,fun i w hw=>?_⟩;simp only[aM];split;simp;exact q2 i;simp only[aM]at hw ⊢;split at hw
   grind
   grind
  unfold jA at hk;cases o with
  |box cs=>
   obtain⟨cs',m,n⟩:=xY cs _ r hk;refine fin _ m rfl (fun{C C' L lim nS pl} f d=>?_);cases pl with
   |nil=>exact d
   |atp id ver e len=>
    obtain⟨h1,h2,ty,esz,row,h3,h4⟩:=d;exact⟨h1,h2,ty,esz,row,h3,n f h4⟩
  |lst ty e g rows=>exact fin _ hk rfl (fun{C C' L lim nS pl} f d=>by cases pl<;>exact d)
  |lz ty e dp rows=>
   refine fin _ hk rfl (fun{C C' L lim nS pl} f d=>?_);cases pl with
   |nil=>exact d
   |atp id ver e3 len=>
    obtain⟨h1,h2,h3,h4,h5,els,l,p⟩:=d;exact⟨h1,h2,h3,h4,h5,els,l,p.mono f.2⟩
  |mp es=>exact fin _ hk rfl (fun{C C' L lim nS pl} f d=>by cases pl<;>exact d)
  |fl fs=>
   obtain⟨q,m,n⟩:=xY fs _ r hk;refine fin _ m rfl (fun{C C' L lim nS pl} f d=>?_);cases pl with
   |nil=>exact d
   |atp id ver e len=>
    obtain⟨h1,h2,h3,h4,ty,els,h5,l,p⟩:=d;obtain⟨a,b,c⟩:=gL1 (n f) l p;exact⟨h1,h2,h3,by rw[h4,a],ty,els,h5,b,c⟩
  |loop N e ps a b busy fi=>
   obtain⟨e',m,n⟩:=iQ e _ r hk;refine fin _ m rfl (fun{C C' L lim nS pl} f d=>?_);cases pl with
   |nil=>exact d
   |atp id ver e3 len=>
    obtain⟨h1,h2,st,pend,tmps,h3,h4,h5,l⟩:=d;refine⟨h1,h2,st,pend,tmps,h3,h4,fun i v hv=>?_,l⟩;obtain⟨w,w1,u⟩:=n i v hv;obtain⟨y,x,z⟩:=h5 i w w1;exact⟨y,x,u f z⟩
theorem Si (c:cM C n h lim s) {e:Nat} {x:PV} {y:AV} {K:aA (aA PV)->aB R} {r:R} (hk:Re h e x K=some r) (hv:RV C x y):∃rows rows',K rows=some r/\Sim.rowsOf (Sim.look s.h) e y=some rows'/\RR rows rows':=by
 unfold Re at hk;split at hk;rename_i e' rows;rw[bK]at hk;by_cases a:e'=e;subst a;rw[jR2 rfl,iT2]at hk;rcases Ld hv with⟨rows',rfl,hr⟩|⟨rfl,rfl|rfl⟩
 exact⟨rows,rows',hk,by simp[Sim.rowsOf],hr⟩;exact⟨[],[],hk,rfl,.nil⟩;exact⟨[],[],hk,rfl,.nil⟩
 grind
 rename_i k;simp only[eK,iC2]at hk;obtain⟨ob,hg,hk⟩:=hk;cases ob with
 |lst ty e' g rows=>
  simp only[bK]at hk;by_cases a:e'=e;subst a;rw[jR2 rfl,iT2]at hk;rcases gV hv with⟨id,ver,i,len,b,rfl⟩|⟨b,hy⟩
  obtain⟨_,rfl,hlen,els,d,hr,f,_⟩:=iJ c hg b;subst hlen;refine⟨rows,els.take rows.length,hk,?_,hr⟩;simp only[Sim.rowsOf,d];rw[iJ2 ⟨by trivial,by trivial,by omega⟩,jX2];have:=jO c hg b;subst this;rcases hy with rfl|rfl;exact⟨[],[],hk,rfl,.nil⟩;exact⟨[],[],hk,rfl,.nil⟩
  grind
 |_=>exact aD hk
 rw[eQ hv];exact⟨[],[],hk,rfl,.nil⟩;exact aD hk
def mv (C:Cx) (k:Nat) (pl:Pl):Cx:=⟨fun j=>if j=k then some pl else C j,C.z⟩
theorem fM (C:Cx) (k:Nat) (pl:Pl):jQ k C (mv C k pl):=⟨fun j a=>iL2 a,fun _ _ h=>h⟩
theorem pM (C:Cx) (k:Nat) (pl:Pl):mv C k pl k=some pl:=iJ2 rfl
theorem jQ.self {k:Nat} {C:Cx}:jQ k C C:=⟨fun _ _=>rfl,fun _ _ h=>h⟩
theorem Cm {k:Nat} {po po':gD} {h1:aT} {C':Cx} (hg:aM h k=some po) (hkl:xX k h h1) (hb:eO po'=false) (c:jQ k C C'):
  ∀j o,aM h j=some o->∃o',aM (eI h1 k po') j=some o'/\(eO o'=true->eO o=true/\C' j=C j):=by
 intro j o a
 have d:(aM h1 k).isSome=true:=by
  cases hc:aM h1 k with
  |none=>rw[(hkl.1 k).1 hc]at hg;cases hg
  |some o=>rfl
 rw[fE];by_cases b:j=k
 grind
 rw[iL2 (fun h=>b h.1)];cases hc:aM h1 j with
 |none=>rw[(hkl.1 j).1 hc]at a;cases a
 |some o'=>
  obtain⟨f,q1,e,_⟩:=hkl.2 j o' hc;rw[a]at q1;cases q1;exact⟨o',rfl,fun h=>⟨by rw[<-e];exact h,c.1 j b⟩⟩
theorem Fx (p:cM C n h lim s) {k id ver e len} {po po2:gD} {h1:aT} {s':Hp} (hg:aM h k=some po) (hkl:xX k h h1)
  (hs:s.n<=s'.n) (hw:Wf s'.h s'.n) (A:Sk s.h s'.h s.n) (b:∀i,i<s.n->i≠id->Sim.look s'.h i=Sim.look s.h i) (a:s.n<=id\/∃v e l,C k=some (.atp id v e l))
  (F:iO (mv C k (.atp id ver e len)) (Sim.look s'.h) lim s'.n po2 (.atp id ver e len)) (hfx:eO po2=false):
  cM (mv C k (.atp id ver e len)) n (eI h1 k po2) lim s'/\Fr C h s (mv C k (.atp id ver e len)) (eI h1 k po2) s':=by
 have y:(aM h1 k).isSome=true:=by
  cases hc:aM h1 k with
  |none=>rw[(hkl.1 k).1 hc]at hg;cases hg
  |some o=>rfl
 have f:∀j,aM (eI h1 k po2) j=if j=k then some po2 else aM h1 j:=fun j=>by
  rw[fE];simp[y]
 have c:∀j,aM (eI h1 k po2) j≠none->aM h j≠none:=fun j d=>by
  rw[f]at d;split at d
  grind
  exact fun hc=>d ((hkl.1 j).2 hc)
 have g:∀j v e l,j≠k->aM h j≠none->C j≠some (.atp id v e l):=by
  intro j v e2 l d D hc;rcases a with a|⟨v',e',l',a⟩
  have:=(p.hr.lt D hc).2;omega;exact d (p.hr.inj j k id _ _ _ _ _ _ D (by rw[hg];simp) hc a)
 refine⟨⟨⟨fun j o d=>?_,fun j q i v1 m x v2 e2 H a1 a2 a3 a4=>?_,fun i o G=>?_⟩,fun j pl d=>?_,hw,jF2 p.lim hs⟩,⟨A,hs,fun i hi z=>b i hi (fun m=>z ?_),fun i hi z=>?_,Cm hg hkl hfx (fM C k _),fun _ _ h=>h,fun _ _ h=>.inl h⟩⟩;rw[f]at d;split at d;rename_i m;subst m;cases d;exact⟨_,pM C j _,F⟩;rename_i u;obtain⟨J,q1,K,q2⟩:=hkl.2 j o d;obtain⟨pl,t,w⟩:=p.hr.ob j J q1;refine⟨pl,((fM C k _).1 j u).trans t,?_⟩;have E:iO (mv C k (.atp id ver e len)) (Sim.look s.h) lim s.n o pl:=q2 (fM C k _) w;refine E.mono hs (.refl _) (fun i v1 m x hp=>?_);subst hp;exact b i E.lt.2 (fun e2=>by subst e2;exact g j _ _ _ u (by rw[q1];simp) t);by_cases b1:j=k;by_cases b2:q=k;rw[b1,b2];exfalso;subst b1;rw[pM]at a3;cases a3;rw[(fM C j _).1 q b2]at a4;exact g q _ _ _ b2 (c q a2) a4;by_cases b2:q=k;exfalso;subst b2;rw[pM]at a4;cases a4;rw[(fM C q _).1 j b1]at a3;exact g j _ _ _ b1 (c j a1) a3;rw[(fM C k _).1 j b1]at a3;rw[(fM C k _).1 q b2]at a4;exact p.hr.inj j q i v1 m x v2 e2 H (c j a1) (c q a2) a3 a4;obtain⟨z1,z2,z3,z4⟩:=p.hr.zr i o G;have r:i≠id:=fun m=>by grind
 refine⟨(b i z2 r).trans z1,kH2 z2 hs,fun j v e' l h1 h2=>?_,z4⟩;by_cases b1:j=k;subst b1;rw[pM]at h2;cases h2;exact r rfl;exact z3 j v e' l (c j h1) (((fM C k _).1 j b1).symm.trans h2);by_cases b1:j=k;subst b1;obtain⟨B,t,_⟩:=p.hr.ob j _ hg;exact p.dom j B t;exact p.dom j pl (((fM C k _).1 j b1).symm.trans d);subst m;rcases a with a|⟨v',e',l',a⟩
 omega;exact⟨k,v',e',l',by rw[hg];simp,a⟩;obtain⟨j,v1,m,x,t,w⟩:=z;by_cases b1:j=k;subst b1;rw[pM]at w;cases w;rcases a with a|⟨v',e',l',a⟩
 omega;exact⟨j,v',e',l',by rw[hg];simp,a⟩;exact⟨j,v1,m,x,c j t,((fM C k _).1 j b1).symm.trans w⟩
end
end Go.P
namespace Go.P
open Go.Sim (AV AO Hp fA upd St IC IX Ex dV CK Wf Out doOp gO exec)
theorem cX.mono {C C':Cx} {e:dZ} {t:aA AV} (h:cX C e t) (a:C.le C'):cX C' e t:=fun i v hv=>by
 obtain⟨y,h1,h2⟩:=h i v hv
 exact⟨y,h1,h2.mono a⟩
theorem cX.put {C':Cx} {e':dZ} {t:aA AV} {d:Nat} {v:PV} {y:AV} (hd:d<t.length) (hv:RV C' v y) (he:∀i w,dR e' i=some w->∃z,t[i]? =some z/\RV C' w z/\i≠d):cX C' ((d,v)::e') (t.set d y):=by
 intro i w hw;simp only[dR]at hw;split at hw
 grind
 grind
theorem cX.edel {C:Cx} {e:dZ} {t:aA AV} (h:cX C e t) (is:aA Nat):∀i w,dR (edel e is) i=some w->∃z,t[i]? =some z/\RV C w z/\i∉is:=fun i w hw=>by
 rw[tH]at hw
 split at hw
 cases hw
 rename_i hi
 obtain⟨z,h1,h2⟩:=h i w hw
 exact⟨z,h1,h2,hi⟩
section
variable {R:Type} {C:Cx} {n:Nat} {h:aT} {lim:Nat} {s:Hp}
theorem Ll (d:cM C n h lim s) {k:Nat} {po:gD} {h1:aT} (hg:aM h k=some po) (hkl:xX k h h1) (hb:eO po=false):cM C n (eI h1 k po) lim s/\Fr C h s C (eI h1 k po) s:=by
 have g:(aM h1 k).isSome=true:=by
  cases hc:aM h1 k with
  |none=>rw[(hkl.1 k).1 hc]at hg;cases hg
  |some o=>rfl
 have a:∀j,aM (eI h1 k po) j=if j=k then some po else aM h1 j:=fun j=>by
  rw[fE];simp[g]
 have b:∀j,aM (eI h1 k po) j≠none->aM h j≠none:=fun j c=>by
  rw[a]at c;split at c
  grind
  exact fun hc=>c ((hkl.1 j).2 hc)
 refine⟨⟨⟨fun j o c=>?_,fun j r i v1 f q v2 e2 w a1 a2 a3 a4=>d.hr.inj j r i v1 f q v2 e2 w (b j a1) (b r a2) a3 a4,fun i o u=>?_⟩,d.dom,d.wf,d.lim⟩,⟨.refl _ _,iH2 _,fun _ _ _=>rfl,fun i hi t=>?_,Cm hg hkl hb jQ.self,fun _ _ h=>h,fun _ _ h=>.inl h⟩⟩;rw[a]at c;split at c;rename_i f;subst f;cases c;exact d.hr.ob j _ hg;obtain⟨x,q1,y,q2⟩:=hkl.2 j o c;obtain⟨pl,m,p⟩:=d.hr.ob j x q1;exact⟨pl,m,q2 jQ.self p⟩;obtain⟨z1,z2,z3,z4⟩:=d.hr.zr i o u;exact⟨z1,z2,fun j v e l h1 h2=>z3 j v e l (b j h1) h2,z4⟩;obtain⟨j,v1,f,q,m,p⟩:=t;exact⟨j,v1,f,q,b j m,p⟩
theorem Nx (c:cM C n h lim s) {e dp:Nat} {x:PV} {y:AV} {K:aA (aA PV)->aB R} {r:R} (hk:Ku h e dp x K=some r) (hv:RV C x y):∃rows rows',K rows=some r/\Sim.rowsOf (Sim.look s.h) e y=some rows'/\Ac C.z dp rows rows':=by
 unfold Ku at hk;split at hk;rename_i e' rows;rw[bK]at hk;by_cases a:e'=e;subst a;rw[jR2 rfl,iT2]at hk;rcases Ld hv with⟨rows',rfl,hr⟩|⟨rfl,rfl|rfl⟩
 exact⟨rows,rows',hk,by simp[Sim.rowsOf],hr.z⟩;exact⟨[],[],hk,rfl,.nil⟩;exact⟨[],[],hk,rfl,.nil⟩
 grind
 rename_i k;simp only[eK,iC2]at hk;obtain⟨ob,hg,hk⟩:=hk;cases ob with
 |lst ty e' g rows=>
  simp only[bK]at hk;by_cases a:e'=e;subst a;rw[jR2 rfl,iT2]at hk;rcases gV hv with⟨id,ver,i,len,b,rfl⟩|⟨b,hy⟩
  obtain⟨_,rfl,hlen,els,f,hr,j,_⟩:=iJ c hg b;subst hlen;refine⟨rows,els.take rows.length,hk,?_,hr.z⟩;simp only[Sim.rowsOf,f];rw[iJ2 ⟨by trivial,by trivial,by omega⟩,jX2];have:=jO c hg b;subst this;rcases hy with rfl|rfl;exact⟨[],[],hk,rfl,.nil⟩;exact⟨[],[],hk,rfl,.nil⟩
  grind
 |lz ty e' dp' rows=>
  simp only at hk;cases hc:(Nat.beq e' e&&Nat.ble dp' dp)with
  |false=>rw[hc]at hk;exact aD hk
  |true=>
   rw[hc,iT2]at hk;simp only[iD2]at hc;have a:=iW2 hc.1;have e2:=jK2 hc.2;subst a;rcases gV hv with⟨id,ver,i,len,b,rfl⟩|⟨b,hy⟩
   obtain⟨_,_,rfl,hlen,_,els,f,hr⟩:=uU c hg b;subst hlen;refine⟨rows,els,hk,?_,hr.up e2⟩;have hl:=hr.1;simp only[Sim.rowsOf,f];rw[iJ2 ⟨by trivial,by trivial,by omega⟩,jX2,hl,List.take_length];have:=tM c hg b;subst this;rcases hy with rfl|rfl;exact⟨[],[],hk,rfl,.nil⟩;exact⟨[],[],hk,rfl,.nil⟩
 |_=>exact aD hk
 rename_i d e' rows;cases hc:(Nat.beq e' e&&Nat.ble d (dp+1))with
 |false=>rw[hc]at hk;exact aD hk
 |true=>
  rw[hc,iT2]at hk;simp only[iD2]at hc;have a:=iW2 hc.1;have e2:=jK2 hc.2;subst a;rcases Ah (Ag hv)with(⟨rows',rfl,hr⟩|⟨rfl,rfl⟩)|⟨d',id,ver,ty,els,rfl,rfl,hz,hl,hr⟩
  exact⟨rows,rows',hk,by simp[Sim.rowsOf],hr.z⟩;exact⟨[],[],hk,rfl,.nil⟩;refine⟨rows,els.take rows.length,hk,?_,hr.up (by omega)⟩;simp only[Sim.rowsOf,(c.hr.zr id _ hz).1];rw[iJ2 ⟨by trivial,by trivial,by omega⟩,jX2]
 rw[eQ hv];exact⟨[],[],hk,rfl,.nil⟩;exact aD hk
theorem Sj (l:cM C n h lim s) {e:dZ} {t:aA AV} {d ty es b k ty' es' dp:Nat} {rows:aA (aA PV)} {zero:aA Value} {kill:aA Nat} {V:PV} {A S:AV} {K:dZ->aT->aB R} {r:R} (he:cX C e t) (hd:d<t.length) (h1:RV C (.own k) A) (h2:RV C V S)
  (hg:aM h k=some (.lz ty' es' dp rows))
  (hk:(Ku h es dp V fun new=>bif Nat.beq es' es&&(Nat.beq ty' ty&& !(fU ty'))then cA (appRows false rows new) fun rows=>
    gR e (d::kill) fun e=>nC k e fun e=>jA k h fun h=>gF h k (.lz ty' es' dp rows) fun h=>K ((d,.own k)::e) h
   else none)=some r):
  ∃C' e' h' out,K e' h'=some r/\doOp (Sim.look s.h) lim s.n (.append ty es b zero false) [A,S]=some out/\cM C' n h' lim (out.apply s)/\cX C' e' (t.set d out.v)/\Fr C h s C' h' (out.apply s):=by
 have hz:=Nx l hk h2;clear hk;obtain⟨new,a,hk,O,o⟩:=hz;by_cases hc:(Nat.beq es' es&&(Nat.beq ty' ty&& !(fU ty')))=true;simp only[hc,iT2,bT,iC2]at hk;simp only[iD2,bK,iO2,iX2]at hc;obtain⟨rfl,rfl,hfx⟩:=hc;obtain⟨y,c,hk⟩:=hk;rw[dS]at hk;obtain⟨e2,hk,M⟩:=iQ _ _ _ hk;obtain⟨X,hk,u⟩:=jV _ _ _ hk;have hk:=dN _ _ _ _ _ hk;unfold appRows at c;split at c;rename_i P;obtain rfl:rows++new=y:=Option.some.inj c
 have m:∀{C':Cx},jQ k C C'->∀i w,dR e2 i=some w->∃z,t[i]? =some z/\RV C' w z/\i≠d:=by
  intro C' j i w hw;obtain⟨v,q1,q2⟩:=M i w hw;obtain⟨z,p1,p2,p3⟩:=he.edel (d::kill) i v q1;exact⟨z,p1,q2 j p2,fun W=>p3 (by simp[W])⟩
 have q:∀out,Sim.appendTo (Sim.look s.h) lim s.n ty' es' A a=some out->(∀z id ver off len cap,out.v=.sl z id ver off len cap->len<=Sim.maxRoom)->doOp (Sim.look s.h) lim s.n (.append ty' es' b zero false) [A,S]=some out:=by
  intro out Y hl;simp only[doOp,Sim.appRows,iQ2,jS2,O,Y];split;rename_i hv;rw[iJ2 ⟨hl _ _ _ _ _ _ hv,by rw[<-o.1];omega⟩];rfl
 have hlen:=o.1;by_cases D:a=[];subst D;have E:new=[]:=by simpa using hlen
 subst E;rw[kT2]at hk;obtain⟨F,G⟩:=Ll l hg u rfl;refine⟨C,_,_,{v:=A},hk,q _ ?_ ?_,F,.put hd h1 (m jQ.self),G⟩;rcases gV h1 with⟨id,ver,g,len,j,rfl⟩|⟨j,hy⟩
 obtain⟨f,_,rfl,hl,_,els,H,hr⟩:=uU l hg j;have:=hr.1;simp only[Sim.appendTo,H];rw[iJ2 ⟨by trivial,by trivial,by trivial,by omega⟩];rfl;rcases hy with rfl|rfl<;>rfl;intro z id ver off len cap hv;rcases gV h1 with⟨id',U,g,T,j,rfl⟩|⟨j,hy⟩
 obtain⟨f,_,rfl,hl,_⟩:=uU l hg j;cases hv;omega
 grind
 have p:a.isEmpty=false:=by cases a<;>simp_all
 rcases gV h1 with⟨id,ver,g,len,j,rfl⟩|⟨j,hy⟩
 obtain⟨f,L,rfl,hl,_,els,H,hr⟩:=uU l hg j;subst hl;have Z:=hr.1
 have J:Sim.appendTo (Sim.look s.h) lim s.n ty' g (.sl g id ver 0 rows.length none) a=some {v:=.sl g id (ver+1) 0 (rows.length+a.length) none,up:=some (id,.arr false ty' g (ver+1) (els++a))}:=by
  simp only[Sim.appendTo,H];rw[iJ2 ⟨by trivial,by trivial,by trivial,by omega⟩];simp only[p,iQ2,jS2];rw[iJ2 (by omega),iJ2 ⟨by trivial,f,by trivial⟩]
 have x:∀i,i≠id->Sim.look (upd s.h id (.arr false ty' g (ver+1) (els++a))) i=Sim.look s.h i:=fun i hi=>by
  rw[Sim.look_upd];simp[hi]
 obtain⟨F,G⟩:=Fx (id:=id) (ver:=ver+1) (e:=g) (len:=(rows++new).length) (po2:=.lz ty' g dp (rows++new)) (s':={h:=upd s.h id (.arr false ty' g (ver+1) (els++a)),n:=s.n}) l hg u
  (iH2 _) (l.wf.upd _ _) (.upd _ _ _ _) (fun i _ hi=>x i hi) (.inr ⟨_,_,_,j⟩) ⟨f,L,rfl,rfl,hfx,els++a,by rw[Sim.look_upd];simp[H],hr.append o⟩ rfl
 refine⟨_,_,_,_,hk,q _ J ?_,F,?_,G⟩
 grind
 refine .put hd ?_ (m (fM C k _));have:RV (mv C k (.atp id (ver+1) g (rows++new).length)) (.own k) (.sl g id (ver+1) 0 (rows++new).length none):=.own (pM C k _);rw[iP2,hlen]at this;simpa[hlen]using this;have N:=tM l hg j;subst N
 have B:Sim.appendTo (Sim.look s.h) lim s.n ty' es' A a=some {v:=.sl es' s.n 0 0 a.length none,new:=some (.arr false ty' es' 0 a)}:=by
  rcases hy with rfl|rfl<;>simp[Sim.appendTo,p]
 have x:∀i,i<s.n->Sim.look (.ob s.n (.arr false ty' es' 0 a)::s.h) i=Sim.look s.h i:=fun i hi=>by
  rw[eD,iL2 (by omega)]
 obtain⟨F,G⟩:=Fx (id:=s.n) (ver:=0) (e:=es') (len:=([]++new).length) (po2:=.lz ty' es' dp ([]++new)) (s':={h:=.ob s.n (.arr false ty' es' 0 a)::s.h,n:=s.n+1}) l hg u
  (by show s.n<=s.n+1;omega) ⟨by simp,l.wf⟩ (.new _ _ _) (fun i hi _=>x i hi) (.inl (iH2 _)) ⟨l.lim,by show s.n<s.n+1;omega,rfl,rfl,hfx,a,by rw[eD,iJ2 rfl],by rw[List.nil_append];exact o⟩ rfl
 refine⟨_,_,_,_,hk,q _ B ?_,F,.put hd ?_ (m (fM C k _)),G⟩
 grind
 have:RV (mv C k (.atp s.n 0 es' ([]++new).length)) (.own k) (.sl es' s.n 0 0 ([]++new).length none):=.own (pM C k _);simpa[hlen]using this;cases c
 grind
theorem Xx (p:cM C n h lim s) {e:dZ} {t:aA AV} {d ty es b:Nat} {zero:aA Value} {kill:aA Nat} {x1 x2:PV} {O X:AV} {K:dZ->aT->aB R} {r:R} (he:cX C e t) (hd:d<t.length) (h1:RV C x1 O) (h2:RV C x2 X)
  (hk:fV1 e h d ty es kill x1 x2 K=some r):
  ∃C' e' h' out,K e' h'=some r/\doOp (Sim.look s.h) lim s.n (.append ty es b zero false) [O,X]=some out/\cM C' n h' lim (out.apply s)/\cX C' e' (t.set d out.v)/\Fr C h s C' h' (out.apply s):=by
 unfold fV1 at hk;cases x1 with
 |own k=>
  simp only[eK,iC2]at hk;obtain⟨ob,hg,hk⟩:=hk;cases ob with
  |lz ty' es' dp rows=>exact Sj p he hd h1 h2 hg hk
  |lst ty' es' g rows=>
   have hz:=Si p hk h2;clear hk;obtain⟨new,a,hk,b9,y⟩:=hz;by_cases hc:(Nat.beq es' es&&(Nat.beq ty' ty&& !(fU ty')))=true;simp only[hc,iT2,bT,iC2]at hk;simp only[iD2,bK,iO2,iX2]at hc;obtain⟨rfl,rfl,hfx⟩:=hc;have A:Ab ty'=ty':=by simp[Ab,hfx]
   obtain⟨N,j,hk⟩:=hk;rw[dS]at hk;obtain⟨e2,hk,b6⟩:=iQ _ _ _ hk;obtain⟨d4,hk,J⟩:=jV _ _ _ hk;have hk:=dN _ _ _ _ _ hk;unfold appRows at j;split at j;rename_i M;obtain rfl:rows++new=N:=Option.some.inj j
   have u:∀{C':Cx},jQ k C C'->∀i w,dR e2 i=some w->∃z,t[i]? =some z/\RV C' w z/\i≠d:=by
    intro C' o i w hw;obtain⟨v,q1,q2⟩:=b6 i w hw;obtain⟨z,p1,p2,p3⟩:=he.edel (d::kill) i v q1;exact⟨z,p1,q2 o p2,fun Y=>p3 (by simp[Y])⟩
   have G:∀out,Sim.appendTo (Sim.look s.h) lim s.n ty' es' O a=some out->(∀z id ver off len cap,out.v=.sl z id ver off len cap->len<=Sim.maxRoom)->doOp (Sim.look s.h) lim s.n (.append ty' es' b zero false) [O,X]=some out:=by
    intro out T hl;simp only[doOp,Sim.appRows,iQ2,jS2,b9,T];split;rename_i hv;rw[iJ2 ⟨hl _ _ _ _ _ _ hv,by rw[<-y.1];omega⟩];rfl
   have hlen:=y.1;by_cases D:a=[]
   ·
    subst D;have S:new=[]:=by simpa using hlen
    subst S;rw[kT2]at hk;obtain⟨V,W⟩:=Ll p hg J (show eO (.lst ty' es' g rows)=false from hfx);refine⟨C,_,_,{v:=O},hk,G _ ?_ ?_,V,.put hd h1 (u jQ.self),W⟩;rcases gV h1 with⟨id,ver,m,len,o,rfl⟩|⟨o,hy⟩
    obtain⟨l,rfl,hl,els,F,hr,b7,_⟩:=iJ p hg o;rw[A]at F;simp only[Sim.appendTo,F];rw[iJ2 ⟨by trivial,by trivial,by trivial,by omega⟩];rfl;rcases hy with rfl|rfl<;>rfl;intro z id ver off len cap hv;rcases gV h1 with⟨id',d2,m,d1,o,rfl⟩|⟨o,hy⟩
    obtain⟨l,rfl,hl,_⟩:=iJ p hg o;cases hv;omega
    grind
   have x:a.isEmpty=false:=by cases a<;>simp_all
   rcases gV h1 with⟨id,ver,m,len,o,rfl⟩|⟨o,hy⟩
   obtain⟨l,rfl,hl,els,F,hr,b7,b0⟩:=iJ p hg o;rw[A]at F;subst hl;have b5:=(p.hr.lt (by rw[hg];simp) o).2
   have fin:∀(f:Nat) (c:aA (aA AV)) (out:Out),out={v:=.sl m id f 0 (rows.length+a.length) none,up:=some (id,.arr false ty' m f c)}->
     Sim.appendTo (Sim.look s.h) lim s.n ty' m (.sl m id ver 0 rows.length none) a=some out->
     RR (rows++new) (c.take (rows++new).length)->(rows++new).length<=c.length->(g=false->c.length=(rows++new).length)->
     ∃C' e' h' out,K e' h'=some r/\doOp (Sim.look s.h) lim s.n (.append ty' m b zero false) [.sl m id ver 0 rows.length none,X]=some out/\cM C' n h' lim (out.apply s)/\cX C' e' (t.set d out.v)/\Fr C h s C' h' (out.apply s):=by
    intro f c out T Z U P a0;have B:(out.apply s).h=upd s.h id (.arr false ty' m f c)/\(out.apply s).n=s.n:=by subst T;exact⟨rfl,rfl⟩
    have L:∀i,i≠id->Sim.look (upd s.h id (.arr false ty' m f c)) i=Sim.look s.h i:=fun i hi=>by
     rw[Sim.look_upd];simp[hi]
    have q:out.apply s={h:=upd s.h id (.arr false ty' m f c),n:=s.n}:=by subst T;rfl
    obtain⟨V,W⟩:=Fx (id:=id) (ver:=f) (e:=m) (len:=(rows++new).length) (po2:=.lst ty' m g (rows++new)) (s':={h:=upd s.h id (.arr false ty' m f c),n:=s.n}) p hg J
     (iH2 _) (p.wf.upd _ _) (.upd _ _ _ _) (fun i _ hi=>L i hi) (.inr ⟨_,_,_,o⟩) ⟨l,b5,rfl,rfl,c,by rw[Sim.look_upd];simp[F,A],U,P,a0⟩ hfx
    refine⟨_,_,_,out,hk,G out Z ?_,by rw[q];exact V,?_,by rw[q];exact W⟩
    grind
    subst T;refine .put hd ?_ (u (fM C k _));have:RV (mv C k (.atp id f m (rows++new).length)) (.own k) (.sl m id f 0 (rows++new).length none):=.own (pM C k _);rw[iP2,hlen]at this;simpa[hlen]using this
   by_cases H:rows.length=els.length;refine fin (ver+1) (els++a) _ rfl ?_ ?_ ?_ ?_;simp only[Sim.appendTo,F];rw[iJ2 ⟨by trivial,by trivial,by trivial,by omega⟩];simp only[x,iQ2,jS2];rw[iJ2 (by omega),iJ2 ⟨by trivial,l,by trivial⟩];rw[jT2 (by simp;omega)];refine RR.append ?_ y;rw[jT2 (by omega)]at hr;exact hr;simp;omega;intro _;simp;omega
   have b4:g=true:=by
    cases g with
    |true=>rfl
    |false=>exact absurd (b0 rfl).symm H
   have d3:=M.2 b4
   have d0:a.length=1:=by
    have:a.length≠0:=by simpa using D
    omega
   have E:rows.length+a.length<=els.length:=by omega
   refine fin ver (Sim.setL els rows.length a) _ rfl ?_ ?_ ?_ ?_;simp only[Sim.appendTo,F];rw[iJ2 ⟨by trivial,by trivial,by trivial,by omega⟩];simp only[x,iQ2,jS2];rw[iL2 (by omega),iJ2 ⟨by omega,l⟩];rw[kC2];rw[rS els rows.length a E];have Y:(els.take rows.length++a++els.drop (rows.length+a.length)).take (rows++new).length=els.take rows.length++a:=by grind
   rw[Y];exact hr.append y;rw[rS els rows.length a E];simp[hlen];omega
   grind
   ·
    have b8:=jO p hg o;subst b8
    have B:Sim.appendTo (Sim.look s.h) lim s.n ty' es' O a=some {v:=.sl es' s.n 0 0 a.length none,new:=some (.arr false ty' es' 0 a)}:=by
     rcases hy with rfl|rfl<;>simp[Sim.appendTo,x]
    have L:∀i,i<s.n->Sim.look (.ob s.n (.arr false ty' es' 0 a)::s.h) i=Sim.look s.h i:=fun i hi=>by
     rw[eD,iL2 (by omega)]
    obtain⟨V,W⟩:=Fx (id:=s.n) (ver:=0) (e:=es') (len:=([]++new).length) (po2:=.lst ty' es' g ([]++new)) (s':={h:=.ob s.n (.arr false ty' es' 0 a)::s.h,n:=s.n+1}) p hg J
     (by show s.n<=s.n+1;omega) ⟨by simp,p.wf⟩ (.new _ _ _) (fun i hi _=>L i hi) (.inl (iH2 _)) ⟨p.lim,by show s.n<s.n+1;omega,rfl,rfl,a,by rw[eD,iJ2 rfl,A],by rw[jT2 (by simp;omega)];exact y,by simp;omega,fun _=>by simp;omega⟩ hfx
    refine⟨_,_,_,_,hk,G _ B ?_,V,.put hd ?_ (u (fM C k _)),W⟩
    grind
    have:RV (mv C k (.atp s.n 0 es' ([]++new).length)) (.own k) (.sl es' s.n 0 0 ([]++new).length none):=.own (pM C k _);simpa[hlen]using this
   cases j
   grind
  |_=>exact aD hk
 |_=>exact aD hk
theorem Sl (d:cM C n h lim s) {k ty2 e2:Nat} {g2:Bool} {po:gD} {h1:aT} (hg:aM h k=some po) (u:C k=some .nil) (hkl:xX k h h1) (g:fU ty2=false):
  cM C n (eI h1 k (.lst ty2 e2 g2 [])) lim s/\Fr C h s C (eI h1 k (.lst ty2 e2 g2 [])) s:=by
 have m:(aM h1 k).isSome=true:=by
  cases hc:aM h1 k with
  |none=>rw[(hkl.1 k).1 hc]at hg;cases hg
  |some o=>rfl
 have a:∀j,aM (eI h1 k (.lst ty2 e2 g2 [])) j=if j=k then some (.lst ty2 e2 g2 [])else aM h1 j:=fun j=>by
  rw[fE];simp[m]
 have b:∀j,aM (eI h1 k (.lst ty2 e2 g2 [])) j≠none->aM h j≠none:=fun j c=>by
  rw[a]at c;split at c
  grind
  exact fun hc=>c ((hkl.1 j).2 hc)
 refine⟨⟨⟨fun j o c=>?_,fun j t i v1 f r v2 e2 y a1 a2 a3 a4=>d.hr.inj j t i v1 f r v2 e2 y (b j a1) (b t a2) a3 a4,fun i o x=>?_⟩,d.dom,d.wf,d.lim⟩,⟨.refl _ _,iH2 _,fun _ _ _=>rfl,fun i hi w=>?_,Cm hg hkl g jQ.self,fun _ _ h=>h,fun _ _ h=>.inl h⟩⟩;rw[a]at c;split at c;rename_i f;subst f;cases c;exact⟨.nil,u,rfl⟩;obtain⟨z,q1,A,q2⟩:=hkl.2 j o c;obtain⟨pl,p,q⟩:=d.hr.ob j z q1;exact⟨pl,p,q2 jQ.self q⟩;obtain⟨z1,z2,z3,z4⟩:=d.hr.zr i o x;exact⟨z1,z2,fun j v e l h1 h2=>z3 j v e l (b j h1) h2,z4⟩;obtain⟨j,v1,f,r,p,q⟩:=w;exact⟨j,v1,f,r,b j p,q⟩
theorem Ny (f:cM C n h lim s) {e:dZ} {t:aA AV} {d es k:Nat} {hi:Int} {kd:IntKind} {kill:aA Nat} {D F:AV} {K:dZ->aT->aB R} {r:R} (he:cX C e t) (hd:d<t.length) (h1:RV C (.own k) D) (h2:RV C (.v (.int kd hi)) F)
  (hk:Iu e h d es kill k hi K=some r):
  ∃C' e' h' out,K e' h'=some r/\doOp (Sim.look s.h) lim s.n (.slc es false true false) [D,F]=some out/\cM C' n h' lim (out.apply s)/\cX C' e' (t.set d out.v)/\Fr C h s C' h' (out.apply s):=by
 unfold Iu at hk;simp only[eK,iC2]at hk;obtain⟨ob,hg,hk⟩:=hk;cases ob with
 |lst ty es' g rows=>
  by_cases hc:es'=es
  .subst hc
   cases hfx:fU ty with
   |true=>simp only[hfx,Bool.not_true,Bool.and_false,jG2]at hk;exact aD hk
   |false=>
   simp only[bK,kV2,hfx,Bool.not_false,Bool.and_true,iT2,bT,iC2,oW]at hk;obtain⟨B,c,hk⟩:=hk;rw[dS]at hk;obtain⟨e2,hk,j⟩:=iQ _ _ _ hk;obtain⟨u,hk,l⟩:=jV _ _ _ hk;have hk:=dN _ _ _ _ _ hk;split at c
   .rename_i hb
    obtain⟨b2,b3⟩:=hb;obtain rfl:=Option.some.inj c;rw[eQ h2];rcases gV h1 with⟨id,ver,o,len,b,rfl⟩|⟨b,hy⟩
    .obtain ⟨m,rfl,hl,els,E,hr,H,G⟩:=iJ f hg b
     subst hl;have x:=(f.hr.lt (by rw[hg];simp) b).2;have a:(rows.take hi.toNat).length=hi.toNat:=by simp;omega
     obtain⟨y,A⟩:=Fx (id:=id) (ver:=ver) (e:=o) (len:=(rows.take hi.toNat).length) (po2:=.lst ty o true (rows.take hi.toNat)) (s':=s) (h1:=u) (hg:=hg) (hkl:=l) f
      (iH2 _) f.wf (.refl _ _) (fun i _ _=>rfl) (.inr ⟨_,_,_,b⟩) ⟨m,x,rfl,rfl,els,E,by
       have:=hr.take hi.toNat
       rw[List.take_take,Nat.min_eq_left (by omega)]at this;rw[a];exact this,by rw[a];omega,fun h=>by cases h⟩ hfx
     refine⟨_,_,_,{v:=.sl o id ver 0 hi.toNat none},hk,?_,y,.put hd ?_ (fun i w hw=>?_),A⟩
     .simp only[doOp,Sim.sliceOp,iQ2,jS2,Sim.bounds,Sim.intOf,jC2,E,Sim.roomOf]
      rw[iJ2 ⟨by trivial,by trivial,by omega,b2,by omega,by omega⟩];simp
     .have:=RV.own (C:=mv C k (.atp id ver o (rows.take hi.toNat).length)) (pM C k _)
      rw[a]at this ⊢;exact this
     .obtain ⟨v,q1,q2⟩:=j i w hw
      obtain⟨z,p1,p2,p3⟩:=he.edel (d::kill) i v q1;exact⟨z,p1,q2 (fM C k _) p2,fun p=>p3 (by simp[p])⟩
    .have:=jO f hg b
     subst this;simp only[iR2,Int.natCast_zero]at b3;obtain rfl:hi=0:=by omega
     obtain⟨y,A⟩:=Sl (ty2:=ty) (e2:=es') (g2:=true) f hg b l hfx
     obtain rfl:D=.v (.slice none 0 0):=by
      rcases kY h1 with⟨_,_,_,_,q,_⟩|⟨_,q⟩
      .rw [b]at q;cases q
      .exact q
     refine⟨_,_,_,{v:=.v (.slice none 0 0)},hk,rfl,y,.put hd (.ownn b rfl) (fun i w hw=>?_),A⟩;obtain⟨v,q1,q2⟩:=j i w hw;obtain⟨z,p1,p2,p3⟩:=he.edel (d::kill) i v q1;exact⟨z,p1,q2 jQ.self p2,fun p=>p3 (by simp[p])⟩
   .cases c
  .simp only[bK,jV2 hc,Bool.false_and,jG2]at hk;exact aD hk
 |_=>exact aD hk
end
end Go.P
namespace Go.P
open Go.Sim (AV AO Hp fA upd St IC IX Ex dV CK Wf Out doOp gO exec)
section
variable {R:Type} {C:Cx} {n:Nat} {h:aT} {lim:Nat} {s:Hp}
theorem Sm (l:cM C n h lim s) {m:Bool} {k:Nat} {v:PV} {ob:gD} {x:PV} (hv:xL v=some (m,k)) (hg:aM h k=some ob) (hf:Kw m ob=some x) {y:AV} (hy:RV C v y):
  (∃id ver e len o,C k=some (.atp id ver e len)/\Sim.look s.h id=some o/\nbO o=true/\∀(z:Nat->aB AO) (f:Nat->aB Pl),(∀i o,C.z i=some o->z i=some o)->z id=some o->RV ⟨f,z⟩ x y)\/(C k=some .nil/\∀C':Cx,RV C' x y):=by
 cases v with
 |own k'=>
  cases hv;cases ob with
  |lst ty e g rows=>
   unfold Kw at hf;cases hfx:fU ty with
   |true=>simp only[hfx,iT2]at hf;cases hf
   |false=>
   simp only[hfx,jG2]at hf;cases hf;have q:Ab ty=ty:=by simp[Ab,hfx]
   rcases kY hy with⟨id,ver,d,len,c,rfl⟩|⟨c,rfl⟩
   obtain⟨_,rfl,hlen,els,j,hr,p,_⟩:=iJ l hg c;subst hlen;rw[q]at j;refine .inl ⟨id,ver,d,_,_,c,j,rfl,fun z f t hi=>.zs (.inr ⟨d,rows,id,ver,ty,els,rfl,rfl,hi,p,fun i r r' a b=>?_⟩)⟩;refine hr.2 i r r' a ?_;have:i<rows.length:=(iG2.1 a).1;rw[jP2,iJ2 this];exact b;have:=jO l hg c;subst this;exact .inr ⟨c,fun C'=>.zs (RZ.of .isn)⟩
  |lz ty e dp rows=>
   cases hf;rcases kY hy with⟨id,ver,d,len,c,rfl⟩|⟨c,rfl⟩
   obtain⟨_,_,rfl,hlen,_,els,j,hr⟩:=uU l hg c;subst hlen;have hl:=hr.1;exact .inl ⟨id,ver,d,_,_,c,j,rfl,fun z f t hi=>.zs (.inr ⟨d,rows,id,ver,ty,els,rfl,rfl,hi,by omega,fun i r r' a b=>(hr.2 i r r' a b).mono fun _ _ h=>RZ.mono t h⟩)⟩;have:=tM l hg c;subst this;exact .inr ⟨c,fun C'=>.zs (RZ.of .isn)⟩
  |_=>cases hf
 |map k'=>
  cases hv;cases ob with
  |mp es=>
   cases hf;obtain⟨id,ver,d,len,c,rfl⟩:=tK hy;obtain⟨_,es',j,he⟩:=Fo l hg c;exact .inl ⟨id,ver,d,_,_,c,j,rfl,fun z f t hi=>.zm hi he⟩
  |_=>cases hf
 |_=>cases hv
def Pk (C:Cx) (k id:Nat) (o:AO):Cx:=⟨fun j=>if j=k then some .nil else C j,fun i=>if i=id then some o else C.z i⟩
theorem tB1 (q:cM C n h lim s) {k id ver e len:Nat} {po:gD} {h1:aT} {o:AO} (hg:aM h k=some po) (u:C k=some (.atp id ver e len)) (L:Sim.look s.h id=some o) (E:nbO o=true) (hkl:xX k h h1):
  cM (Pk C k id o) n (eI h1 k (.lst 0 0 true [])) lim s/\Fr C h s (Pk C k id o) (eI h1 k (.lst 0 0 true [])) s/\jQ k C (Pk C k id o):=by
 have B:=(q.hr.lt (by rw[hg];simp) u).2
 have F:C.z id=none:=by
  cases f:C.z id with
  |none=>rfl
  |some o'=>exact absurd u ((q.hr.zr id o' f).2.2.1 k ver e len (by rw[hg];simp))
 have x:∀i o',C.z i=some o'->(Pk C k id o).z i=some o':=fun i o' f=>by
  have:i≠id:=fun r=>by rw[r,F]at f;cases f
  simp only[Pk,iL2 this];exact f
 have c:jQ k C (Pk C k id o):=⟨fun j d=>iL2 d,x⟩
 have y:(Pk C k id o) k=some .nil:=iJ2 rfl
 have A:(aM h1 k).isSome=true:=by
  cases hc:aM h1 k with
  |none=>rw[(hkl.1 k).1 hc]at hg;cases hg
  |some o=>rfl
 have m:∀j,aM (eI h1 k (.lst 0 0 true [])) j=if j=k then some (.lst 0 0 true [])else aM h1 j:=fun j=>by
  rw[fE];simp[A]
 have p:∀j,aM (eI h1 k (.lst 0 0 true [])) j≠none->aM h j≠none:=fun j d=>by
  rw[m]at d;split at d
  grind
  exact fun hc=>d ((hkl.1 j).2 hc)
 have g:∀{j t v e l},(Pk C k id o) j=some (.atp t v e l)->j≠k/\C j=some (.atp t v e l):=fun{j t v e l} d=>by
  by_cases b:j=k
  grind
  exact⟨b,(c.1 j b).symm.trans d⟩
 refine⟨⟨⟨fun j ob d=>?_,fun j K i v1 r J v2 e2 N a1 a2 a3 a4=>q.hr.inj j K i v1 r J v2 e2 N (p j a1) (p K a2) (g a3).2 (g a4).2,fun i o' f=>?_⟩,fun j pl d=>?_,q.wf,q.lim⟩,⟨.refl _ _,iH2 _,fun _ _ _=>rfl,fun i hi M=>?_,Cm hg hkl rfl c,x,fun i hi f=>?_⟩,c⟩;rw[m]at d;split at d;rename_i r;subst r;cases d;exact⟨.nil,y,rfl⟩;rename_i D;obtain⟨O,q1,P,q2⟩:=hkl.2 j ob d;obtain⟨pl,G,H⟩:=q.hr.ob j O q1;exact⟨pl,(c.1 j D).trans G,q2 c H⟩;by_cases hi:i=id;subst hi;simp only[Pk,jJ2]at f;cases f;refine⟨L,B,fun j v e' l a b=>?_,E⟩;obtain⟨b1,b2⟩:=g b;exact b1 (q.hr.inj j k i _ _ _ _ _ _ (p j a) (by rw[hg];simp) b2 u);simp only[Pk,iL2 hi]at f;obtain⟨z1,z2,z3,z4⟩:=q.hr.zr i o' f;exact⟨z1,z2,fun j v e' l a b=>z3 j v e' l (p j a) (g b).2,z4⟩;by_cases b:j=k;subst b;exact q.dom j _ u;exact q.dom j pl ((c.1 j b).symm.trans d);obtain⟨j,v1,r,J,G,H⟩:=M;exact⟨j,v1,r,J,p j G,(g H).2⟩;by_cases w:i=id;subst w;exact .inr ⟨k,ver,e,len,by rw[hg];simp,u⟩;simp only[Pk,iL2 w]at f;exact .inl f
theorem Xy (A:cM C n h lim s) {e:dZ} {t:aA AV} (he:cX C e t) {d k:Nat} {m:Bool} {H J:PV} {q yd:AV} {j:aB Nat} {K:dZ->aT->aB R} {r:R} (N:dR e d=some J) (hd:t[d]? =some yd) (P:RV C J yd)
  (hv:xL H=some (m,k)) (hy:RV C H q) (O:(j=none/\yd=q)\/∃i cs',j=some i/\yd=.agg cs'/\cs'[i]? =some q) (hk:fzK e h d m k j K=some r):
  ∃C' e' h',K e' h'=some r/\cM C' n h' lim s/\cX C' e' t/\Fr C h s C' h' s:=by
 unfold fzK at hk;rw[eK,iC2]at hk;obtain⟨ob,hg,hk⟩:=hk;cases hf:Kw m ob with
 |none=>rw[hf]at hk;cases hk
 |some x=>
 rw[hf]at hk;simp only at hk;obtain⟨e2,hk,D⟩:=iQ _ _ _ hk;obtain⟨h2,hk,p⟩:=jV _ _ _ hk;have hk:=dN _ _ _ _ _ hk
 have g:∃C',cM C' n (eI h2 k (.lst 0 0 true [])) lim s/\Fr C h s C' (eI h2 k (.lst 0 0 true [])) s/\jQ k C C'/\RV C' x q:=by
  rcases Sm A hv hg hf hy with⟨id,ver,S,len,o,y,M,E,F⟩|⟨y,F⟩
  obtain⟨c,f,u⟩:=tB1 A hg y M E p;exact⟨_,c,f,u,F _ _ u.2 (by simp[Pk])⟩;obtain⟨c,f⟩:=Sl (ty2:=0) (e2:=0) (g2:=true) A hg y p rfl;exact⟨C,c,f,jQ.self,F C⟩
 obtain⟨C',c,f,u,G⟩:=g
 have l:cX C' e2 t:=fun i w hw=>by
  obtain⟨v,q1,q2⟩:=D i w hw;obtain⟨z,p1,p2⟩:=he i v q1;exact⟨z,p1,q2 u p2⟩
 have zC:∀{v:PV},RV C' v yd->cX C' ((d,v)::edel e2 [d]) t:=fun{v} hv i w hw=>by
  simp only[dR]at hw;split at hw
  grind
  obtain⟨z,p1,p2,_⟩:=l.edel [d] i w hw;exact⟨z,p1,p2⟩
 rcases O with⟨rfl,rfl⟩|⟨i,cs',rfl,rfl,hi⟩
 simp only[dS]at hk;exact⟨C',_,_,hk,c,zC G,f⟩;simp only[fB,iC2]at hk;obtain⟨v2,hv2,hk⟩:=hk;cases v2 with
 |agg cs=>
  obtain⟨q1,q2⟩:=iA _ _ _ _ _ hk;simp only[dS]at q2;obtain⟨z,p1,p2⟩:=l d _ hv2;rw[hd]at p1;cases p1;obtain⟨cs2,B,hl⟩:=lJ p2;cases B;refine⟨C',_,_,q2,c,zC ?_,f⟩;have b:=hl.set G i
  have L:cs'.set i q=cs':=by
   apply lO2;intro a;rw[jD2];split
   grind
   rfl
  rw[L]at b;exact .agg b.1 b.2
 |_=>exact aD hk
end
end Go.P
namespace Go.P
open Go.Sim (AV AO Hp fA upd St IC IX Ex dV CK Wf Out doOp gO exec Foot wanted put)
theorem Sn {x:PV} (h:okC x=true):RC false x (eV x):=by
 unfold okC at h;split at h;exact .v _;exact .isn;exact .fn rfl rfl (fun j x y h=>by simp at h) (fun j x y h=>by simp at h);rename_i cs;refine .agg (by simp) (fun j x y a hy=>?_);simp only[jE2,iE2]at hy;obtain⟨b,h1,rfl⟩:=hy;rw[a]at h1;cases h1;have:=iM2.1 h x (iN2 a);cases x<;>simp[isV]at this;exact .v _;cases h
def Jd (N:Nat):PX->Bool
 |.t i=>Nat.blt i N
 |.c x=>okC x
def iP (N:Nat) (e:aA Nat) (a:Bool):aA Nat->gJ->Bool
 |_,.nil=>true
 |ds,.op d _ xs _ r=>Nat.blt d N&& !zB d e&&xs.all (Jd N)&&iP N e a (d::ds) r
 |ds,.sto _ xs _ r=>xs.all (Jd N)&&iP N e a ds r
 |ds,.ifx d c _ b x _ r=>Nat.blt d N&& !zB d e&&Jd N x&&(!a||zB c ds)&&iP N (c::e) true [] b&&iP N e a (d::ds) r
 |ds,.ifn d c _ b x _ r=>Nat.blt d N&& !zB d e&&Jd N x&&(!a||zB c ds)&&iP N (c::e) true [] b&&iP N e a (d::ds) r
 |ds,.mkfl d _ _ xs _ r=>Nat.blt d N&& !zB d e&&xs.all (Jd N)&&iP N e a (d::ds) r
 |ds,.lax _ _ r=>iP N e a ds r
 |ds,.own _ _ _ _ r=>iP N e a ds r
 |ds,.ownc _ _ _ _ _ r=>iP N e a ds r
 |ds,.laxc _ _ _ r=>iP N e a ds r
 |ds,.fz _ _ r=>iP N e a ds r
 |ds,.laxm _ _ r=>iP N e a ds r
section
variable {R:Type} {C:Cx} {n N:Nat} {h:aT} {lim:Nat} {s:Hp} {T:gO} {O:sP} {NF:FuncId->Bool} {dr:Nat} {e:dZ} {t:List AV}
theorem iU (he:cX C e t):∀{xs:aA PX} {vs:aA PV},xs.all (Jd N)=true->evs e xs=some vs->∃ys,Sim.evs t (xs.map eX)=some ys/\LR (RV C) vs ys
 |[],vs,_,h=>by
  simp only[evs,iK2]at h
  subst h
  exact⟨[],rfl,.nil⟩
 |.t i::xs,vs,ho,h=>by
  simp only[evs,iC2,iK2]at h
  obtain⟨v,hv,f,a,rfl⟩:=h
  obtain⟨y,h1,h2⟩:=he i v hv
  obtain⟨ys,b,d⟩:=iU he (xs:=xs) (by simp only[kD2,iD2]at ho;exact ho.2) a
  exact⟨y::ys,by simp[Sim.evs,eX,IX.ev,h1,b],.cons h2 d⟩
 |.c x::xs,vs,ho,h=>by
  simp only[evs,iC2,iK2]at h
  obtain⟨f,a,rfl⟩:=h
  simp only[kD2,iD2]at ho
  obtain⟨ys,b,d⟩:=iU he (xs:=xs) ho.2 a
  exact⟨eV x::ys,by simp[Sim.evs,eX,IX.ev,b],.cons (.cl (Sn ho.1)) d⟩
def Hi (g:aB (Nat×Bool)) (t:aA AV):Prop:=match g with
 |none=>True
 |some (c,w)=>t[c]? =some (.v (.bool w))
theorem Hi.wanted {g:aB (Nat×Bool)} {t:aA AV} (h:Hi g t):wanted t g=true:=by
 cases g with
 |none=>rfl
 |some p=>obtain⟨c,w⟩:=p;simp only[Hi]at h;simp[Sim.wanted,h]
def GIn (g:aB (Nat×Bool)) (a:aA Nat):Prop:=∀c w,g=some (c,w)->c∈a
theorem Hi.set {g:aB (Nat×Bool)} {t:aA AV} {a:aA Nat} {d:Nat} {y:AV} (h:Hi g t) (hg:GIn g a) (hd:d∉a):Hi g (t.set d y):=by
 cases g with
 |none=>trivial
 |some p=>
  obtain⟨c,w⟩:=p;simp only[Hi]at h ⊢;rw[jB2 (fun e=>hd (by rw[e];exact hg c w rfl))];exact h
structure Mx (s s':Hp):Prop where
 sk:Sk s.h s'.h s.n
 n:s.n<=s'.n
 wf:Wf s'.h s'.n
 look:∀id,id<s.n->Sim.look s'.h id=Sim.look s.h id
theorem Mx.refl (hw:Wf s.h s.n):Mx s s:=⟨.refl _ _,iH2 _,hw,fun _ _=>rfl⟩
theorem Mx.trans {s' d:Hp} (a:Mx s s') (b:Mx s' d):Mx s d:=⟨a.sk.trans b.sk a.n,jF2 a.n b.n,b.wf,fun id c=>(b.look id (kH2 c a.n)).trans (a.look id c)⟩
theorem cM.grow {s':Hp} (b:cM C n h lim s) (a:Mx s s'):cM C n h lim s':=by
 refine⟨⟨fun k po hk=>?_,b.hr.inj,fun id o c=>?_⟩,b.dom,a.wf,jF2 b.lim a.n⟩;obtain⟨pl,h1,h2⟩:=b.hr.ob k po hk;refine⟨pl,h1,h2.mono a.n (.refl C) (fun id v e l hp=>?_)⟩;subst hp;exact a.look id h2.lt.2;obtain⟨z1,z2,z3,z4⟩:=b.hr.zr id o c;exact⟨(a.look id z2).trans z1,kH2 z2 a.n,z3,z4⟩
theorem Mx.fr {s':Hp} (b:Mx s s'):Fr C h s C h s':=⟨b.sk,b.n,fun id a _=>b.look id a,fun _ _ h=>h,fun k o h=>⟨o,h,fun hb=>⟨hb,rfl⟩⟩,fun _ _ h=>h,fun _ _ h=>.inl h⟩
theorem cN:∀(ops:gJ) (a:aA Nat) (i:Nat),i∈cC ops a↔i∈cC ops []\/i∈a
 |.nil,a,i=>by simp[cC]
 |.op d k xs kl r,a,i=>by
  simp only[cC,iY2,cN r a i,or_assoc]
 |.sto k xs kl r,a,i=>by simp only[cC,cN r a i]
 |.ifx d c w b x kl r,a,i=>by
  simp only[cC,iY2,cN b (cC r a) i,cN b (cC r []) i,cN r a i]
  constructor
  rintro(h|h|h|h)<;>simp[h]
  rintro((h|h|h)|h)<;>simp[h]
 |.ifn d c w b x kl r,a,i=>by
  simp only[cC,iY2,cN b (cC r a) i,cN b (cC r []) i,cN r a i]
  constructor
  rintro(h|h|h|h)<;>simp[h]
  rintro((h|h|h)|h)<;>simp[h]
 |.mkfl d ty zero xs kl r,a,i=>by
  simp only[cC,iY2,cN r a i,or_assoc]
 |.lax d es r,a,i=>by simp only[cC,cN r a i]
 |.own d ty e g r,a,i=>by simp only[cC,cN r a i]
 |.ownc d j ty e g r,a,i=>by simp only[cC,cN r a i]
 |.laxc d j e r,a,i=>by simp only[cC,cN r a i]
 |.fz d j r,a,i=>by simp only[cC,cN r a i]
 |.laxm d j r,a,i=>by simp only[cC,cN r a i]
theorem dW:∀(ops:gJ) {f h:aA Nat} {a:Bool},iP N f a h ops=true->∀i∈cC ops [],i∉f
 |.nil,f,h,a,_,i,hi=>by simp[cC]at hi
 |.op d k xs kl r,f,h,a,ho,i,hi=>by
  simp only[iP,iD2,iX2,gG]at ho
  obtain⟨⟨⟨h1,h2⟩,h3⟩,h4⟩:=ho
  simp only[cC,iY2]at hi
  rcases hi with rfl|hi
  simpa using h2
  exact dW r h4 i hi
 |.sto k xs kl r,f,h,a,ho,i,hi=>by
  simp only[iP,iD2]at ho
  exact dW r ho.2 i hi
 |.ifx d c w b x kl r,f,h,a,ho,i,hi=>by
  simp only[iP,iD2,iX2,gG]at ho
  obtain⟨⟨⟨⟨⟨h1,h2⟩,h3⟩,h4⟩,h5⟩,l⟩:=ho
  simp only[cC,iY2,cN b (cC r []) i]at hi
  rcases hi with rfl|hi|hi
  simpa using h2
  exact fun hg=>dW b h5 i hi (by simp[hg])
  exact dW r l i hi
 |.ifn d c w b x kl r,f,h,a,ho,i,hi=>by
  simp only[iP,iD2,iX2,gG]at ho
  obtain⟨⟨⟨⟨⟨h1,h2⟩,h3⟩,h4⟩,h5⟩,l⟩:=ho
  simp only[cC,iY2,cN b (cC r []) i]at hi
  rcases hi with rfl|hi|hi
  simpa using h2
  exact fun hg=>dW b h5 i hi (by simp[hg])
  exact dW r l i hi
 |.mkfl d ty zero xs kl r,f,h,a,ho,i,hi=>by
  simp only[iP,iD2,iX2,gG]at ho
  obtain⟨⟨⟨h1,h2⟩,h3⟩,h4⟩:=ho
  simp only[cC,iY2]at hi
  rcases hi with rfl|hi
  simpa using h2
  exact dW r h4 i hi
 |.lax d es r,f,h,a,ho,i,hi=>dW r (by simpa only[iP]using ho) i hi
 |.own d ty e g r,f,h,a,ho,i,hi=>dW r (by simpa only[iP]using ho) i hi
 |.ownc d j ty e g r,f,h,a,ho,i,hi=>dW r (by simpa only[iP]using ho) i hi
 |.laxc d j e r,f,h,a,ho,i,hi=>dW r (by simpa only[iP]using ho) i hi
 |.fz d j r,f,h,a,ho,i,hi=>dW r (by simpa only[iP]using ho) i hi
 |.laxm d j r,f,h,a,ho,i,hi=>dW r (by simpa only[iP]using ho) i hi
theorem mP {g:aB (Nat×Bool)} {a:aA Nat} {d:Nat} {y:AV} (hg:GIn g a) (hd:d∉a):wanted (t.set d y) g=wanted t g:=by
 cases g with
 |none=>rfl
 |some p=>
  obtain⟨c,w⟩:=p;simp only[Sim.wanted];rw[jB2 (fun e=>hd (by rw[e];exact hg c w rfl))]
theorem uZ {g:aB (Nat×Bool)} {t a:aA AV} (h:∀c w,g=some (c,w)->a[c]? =t[c]?):wanted a g=wanted t g:=by
 cases g with
 |none=>rfl
 |some p=>
  obtain⟨c,w⟩:=p;simp only[Sim.wanted];rw[h c w rfl]
theorem eL (g:aB (Nat×Bool)):∀(ops:gJ) (a h:aA Nat) (t:aA AV),iP N a true h ops=true->GIn g a->wanted t g=false->
  (∀c∈h,∀b,t[c]? ≠some (.v (.bool b)))->
  ∃fs n,Tr T NF dr lim (oY g ops) {t:=t,s:=s} fs {t:=n,s:=s}/\n.length=t.length/\(∀(i:Nat),i∉cC ops []->n[i]? =t[i]?)/\∀(i:Nat),n[i]? =t[i]? \/n[i]? =some AV.undef
 |.nil,a,h,t,_,_,_,_=>⟨[],t,.nil,rfl,fun _ _=>rfl,fun _=>.inl rfl⟩
 |.op d k xs kl r,a,h,t,ho,hg,hw,hd=>by
  simp only[iP,iD2,iX2,gG]at ho
  obtain⟨⟨⟨h1,h2⟩,h3⟩,h4⟩:=ho
  have m:d∉a:=by simpa using h2
  have eI:∀i,(t.set d AV.undef)[i]? =t[i]? \/(t.set d AV.undef)[i]? =some AV.undef:=fun i=>by
   by_cases e:d=i
   subst e
   by_cases hl:d<t.length
   exact .inr (by rw[jD2];simp[hl])
   exact .inl (by rw[lD2 (Nat.le_of_not_lt hl)])
   exact .inl (jB2 e)
  obtain⟨fs,n,A,B,y,l⟩:=eL g r a (d::h) (t.set d AV.undef) h4 hg (by rw[mP hg m];exact hw) (fun c hc b=>by
   by_cases f:d=c
   subst f
   rw[jD2]
   simp only[jJ2]
   split
   intro e;cases e
   intro e;cases e
   rw[jB2 f]
   rcases iY2.1 hc with rfl|hc
   exact absurd rfl f
   exact hd c hc b)
  refine⟨_,n,.skip (o:=⟨some d,k,xs.map eX,g⟩) hw A,by simpa using B,fun i hi=>?_,fun i=>?_⟩
  simp only[cC,iY2,lI2]at hi
  rw[y i hi.2,jB2 (Ne.symm hi.1)]
  rcases l i with l|l
  rw[l];exact eI i
  exact .inr l
 |.ifx d c w b x kl r,a,h,t,ho,hg,hw,hd=>by
  simp only[iP,iD2,iX2,gG,Bool.not_true,Bool.false_or]at ho
  obtain⟨⟨⟨⟨⟨h1,h2⟩,h3⟩,h4⟩,h5⟩,H⟩:=ho
  have m:d∉a:=by simpa using h2
  have D:c∈h:=by simpa using h4
  have F:wanted t (some (c,w))=false:=by
   simp only[Sim.wanted];split;rename_i q J;exact absurd J (hd c D q);rfl
  obtain⟨fs,p,A,B,y,l⟩:=eL (some (c,w)) b (c::a) [] t h5 (fun z w' e=>by cases e;simp) F (fun c hc=>by simp at hc)
  have u:wanted p g=false:=by
   rw[uZ (t:=t) (fun z w' e=>y z (fun hi=>dW b h5 z hi (by simp[hg z w' e])))];exact hw
  have E:∀c∈h,∀b,p[c]? ≠some (.v (.bool b)):=fun c hc b=>by
   rcases l c with l|l;rw[l];exact hd c hc b;rw[l];intro e;cases e
  have eI:∀i,(p.set d AV.undef)[i]? =p[i]? \/(p.set d AV.undef)[i]? =some AV.undef:=fun i=>by
   by_cases e:d=i;subst e;by_cases hl:d<p.length;exact .inr (by rw[jD2];simp[hl]);exact .inl (by rw[lD2 (Nat.le_of_not_lt hl)]);exact .inl (jB2 e)
  obtain⟨G,n,q1,q2,q3,q4⟩:=eL g r a (d::h) (p.set d AV.undef) H hg (by rw[mP hg m];exact u) (fun c hc b=>by
   by_cases f:d=c;subst f;rw[jD2];simp only[jJ2];split;intro e;cases e;intro e;cases e;rw[jB2 f];rcases iY2.1 hc with rfl|hc;exact absurd rfl f;exact E c hc b)
  refine⟨_,n,A.append (.skip u q1),by simp[q2,B],fun i hi=>?_,fun i=>?_⟩;simp only[cC,iY2,cN b (cC r []) i,lI2]at hi;rw[q3 i hi.2.2,jB2 (Ne.symm hi.1),y i hi.2.1];rcases q4 i with q4|q4;rw[q4];rcases eI i with C|C;rw[C];exact l i;exact .inr C;exact .inr q4
 |.ifn d c w b x kl r,a,h,t,ho,hg,hw,hd=>by
  simp only[iP,iD2,iX2,gG,Bool.not_true,Bool.false_or]at ho;obtain⟨⟨⟨⟨⟨h1,h2⟩,h3⟩,h4⟩,h5⟩,H⟩:=ho;have m:d∉a:=by simpa using h2
  have D:c∈h:=by simpa using h4
  have F:wanted t (some (c,w))=false:=by
   simp only[Sim.wanted];split;rename_i q J;exact absurd J (hd c D q);rfl
  obtain⟨fs,p,A,B,y,l⟩:=eL (some (c,w)) b (c::a) [] t h5 (fun z w' e=>by cases e;simp) F (fun c hc=>by simp at hc)
  have u:wanted p g=false:=by
   rw[uZ (t:=t) (fun z w' e=>y z (fun hi=>dW b h5 z hi (by simp[hg z w' e])))];exact hw
  have E:∀c∈h,∀b,p[c]? ≠some (.v (.bool b)):=fun c hc b=>by
   rcases l c with l|l;rw[l];exact hd c hc b;rw[l];intro e;cases e
  have eI:∀i,(p.set d AV.undef)[i]? =p[i]? \/(p.set d AV.undef)[i]? =some AV.undef:=fun i=>by
   by_cases e:d=i;subst e;by_cases hl:d<p.length;exact .inr (by rw[jD2];simp[hl]);exact .inl (by rw[lD2 (Nat.le_of_not_lt hl)]);exact .inl (jB2 e)
  obtain⟨G,n,q1,q2,q3,q4⟩:=eL g r a (d::h) (p.set d AV.undef) H hg (by rw[mP hg m];exact u) (fun c hc b=>by
   by_cases f:d=c;subst f;rw[jD2];simp only[jJ2];split;intro e;cases e;intro e;cases e;rw[jB2 f];rcases iY2.1 hc with rfl|hc;exact absurd rfl f;exact E c hc b)
  refine⟨_,n,A.append (.skip u q1),by simp[q2,B],fun i hi=>?_,fun i=>?_⟩;simp only[cC,iY2,cN b (cC r []) i,lI2]at hi;rw[q3 i hi.2.2,jB2 (Ne.symm hi.1),y i hi.2.1];rcases q4 i with q4|q4;rw[q4];rcases eI i with C|C;rw[C];exact l i;exact .inr C;exact .inr q4
 |.mkfl d ty zero xs kl r,a,h,t,ho,hg,hw,hd=>by
  simp only[iP,iD2,iX2,gG]at ho;obtain⟨⟨⟨h1,h2⟩,h3⟩,h4⟩:=ho;have m:d∉a:=by simpa using h2
  have eI:∀i,(t.set d AV.undef)[i]? =t[i]? \/(t.set d AV.undef)[i]? =some AV.undef:=fun i=>by
   by_cases e:d=i;subst e;by_cases hl:d<t.length;exact .inr (by rw[jD2];simp[hl]);exact .inl (by rw[lD2 (Nat.le_of_not_lt hl)]);exact .inl (jB2 e)
  obtain⟨fs,n,A,B,y,l⟩:=eL g r a (d::h) (t.set d AV.undef) h4 hg (by rw[mP hg m];exact hw) (fun c hc b=>by
   by_cases f:d=c;subst f;rw[jD2];simp only[jJ2];split;intro e;cases e;intro e;cases e;rw[jB2 f];rcases iY2.1 hc with rfl|hc;exact absurd rfl f;exact hd c hc b)
  refine⟨_,n,.skip (o:=⟨some d,.buildSl ty 1 xs.length zero (List.range xs.length),xs.map eX,g⟩) hw A,by simpa using B,fun i hi=>?_,fun i=>?_⟩;simp only[cC,iY2,lI2]at hi;rw[y i hi.2,jB2 (Ne.symm hi.1)];rcases l i with l|l;rw[l];exact eI i;exact .inr l
 |.sto k xs kl r,a,h,t,ho,hg,hw,hd=>by
  simp only[iP,iD2]at ho;obtain⟨fs,n,A,B,y,l⟩:=eL g r a h t ho.2 hg hw hd;exact⟨_,n,.skip (o:=⟨none,k,xs.map eX,g⟩) hw A,B,y,l⟩
 |.lax d es r,a,h,t,ho,hg,hw,hd=>eL g r a h t (by simpa only[iP]using ho) hg hw hd
 |.own d ty e g' r,a,h,t,ho,hg,hw,hd=>eL g r a h t (by simpa only[iP]using ho) hg hw hd
 |.ownc d j ty e g' r,a,h,t,ho,hg,hw,hd=>eL g r a h t (by simpa only[iP]using ho) hg hw hd
 |.laxc d j e r,a,h,t,ho,hg,hw,hd=>eL g r a h t (by simpa only[iP]using ho) hg hw hd
 |.fz d j r,a,h,t,ho,hg,hw,hd=>eL g r a h t (by simpa only[iP]using ho) hg hw hd
 |.laxm d j r,a,h,t,ho,hg,hw,hd=>eL g r a h t (by simpa only[iP]using ho) hg hw hd
end
end Go.P
namespace Go.P
open Go.Sim (AV AO Hp fA upd St IC IX Ex dV CK Wf Out doOp gO exec Foot wanted put)
section
variable {R:Type} {T:gO} {O:sP} {X:NX} {dr:Nat}
theorem Lm (B:∀f xs v,O f xs=some v->mO T f xs v) {C:Cx} {n:Nat} {h:aT} {lim:Nat} {s:Hp} {k:dV} {as:aA PV} {ys:aA AV} {K:PV->aT->Nat->aB R} {r:R}
  (g:cM C n h lim s) (u:LR (RV C) as ys) (hk:opK O X k as h n K=some r):
  ∃v h' n' C' y s',K v h' n'=some r/\RV C' v y/\cM C' n' h' lim s'/\C.le C'/\n<=n'/\Fr C h s C' h' s'/\(Fk k=false->∀id,id<s.n->Sim.look s'.h id=Sim.look s.h id)/\
   ∀(o:Sim.Op1) (os:aA Sim.Op1) (t:aA AV) (fs:aA Foot) (τ:St),o.k=k->wanted t o.guard=true->Sim.evs t o.xs=some ys->Tr T X.is dr lim os {t:=put t o.dst y,s:=s'} fs τ->∃f,Tr T X.is dr lim (o::os) {t:=t,s:=s} (f::fs) τ:=by
 have call:∀(f:FuncId) (xs:aA PV) (zs:aA AV) (k:dV),uQ O f xs h (fun v=>K v h n)=some r->LR (RV C) xs zs->gX k=true->3<=kN X.is dr k->((∃ifn,T f=some ifn/\ifn.pure=true)->Sim.foot T k ys={all:=1})->
   (∀(d:Nat) (s:Hp),Sim.step T (exec T d) lim k ys s=Sim.callF T (exec T d) lim f zs s)->
   ∃v h' n' C' y s',K v h' n'=some r/\RV C' v y/\cM C' n' h' lim s'/\C.le C'/\n<=n'/\Fr C h s C' h' s'/\(Fk k=false->∀id,id<s.n->Sim.look s'.h id=Sim.look s.h id)/\
   ∀(o:Sim.Op1) (os:aA Sim.Op1) (t:aA AV) (fs:aA Foot) (τ:St),o.k=k->wanted t o.guard=true->Sim.evs t o.xs=some ys->Tr T X.is dr lim os {t:=put t o.dst y,s:=s'} fs τ->∃f,Tr T X.is dr lim (o::os) {t:=t,s:=s} (f::fs) τ:=by
  intro f xs zs k hk F hc i hf p;obtain⟨v,y,h1,h2,h3,D,h4⟩:=Fu (lim:=lim) B g hk F;refine⟨v,h,n,C,y,s,h1,.cl h2,g,.refl C,iH2 _,.refl _ _ _,fun _ _ _=>rfl,fun o os t fs τ l hw he q=>⟨{all:=1},?_⟩⟩;subst l;exact .call hw he hc i (hf h3) ⟨D,fun d hd m=>by rw[p];exact h4 d hd m⟩ q
 unfold opK at hk;split at hk;rename_i e f;cases hX:X.is f with
 |true=>rw[hX]at hk;exact aD hk
 |false=>
  rw[hX,jG2]at hk;refine call _ _ ys (.callF _) hk u rfl (by simp[kN,hX]) (fun⟨ifn,h1,h2⟩=>?_) (fun d s=>rfl);simp[Sim.foot,h1,h2]
 rename_i f first cap e
 obtain⟨y,w,rfl,h1,h2⟩:=u.inv_cons;obtain⟨a',b',rfl,h3,h4⟩:=uT h1;cases hX:X.is f with
 |true=>rw[hX]at hk;exact aD hk
 |false=>
  rw[hX,jG2]at hk;refine call f (first++e++cap) (a'++w++b') .callV hk ((h3.append h2).append h4) rfl (by simp only[kN];split<;>omega) (fun⟨ifn,G,H⟩=>?_) (fun d s=>rfl);simp[Sim.foot,G,H]
 rename_i k' e j E;obtain⟨v,h',n',C',out,h1,h2,h3,h4,h5,x,z,A⟩:=Fs g u hk;refine⟨v,h',n',C',out.v,out.apply s,h1,h3,h4,h5,x,z,A,fun o os t fs τ l hw he q=>?_⟩;subst l;refine⟨_,.op hw he ?_ h2 q⟩;cases hk':o.k with
 |callF f=>exact absurd hk' (j f)
 |callV=>
  rw[hk']at hk;unfold dF at hk;rcases e with _|⟨a,_|⟨b,_|⟨c,_|⟨d,t⟩⟩⟩⟩<;>exact aD hk
 |_=>rfl
theorem xZ {t:aA AV} {c i:Nat} {x:PX} {N:Nat} (b:t.length=N) (a:Jd N x=true):∃z,(eX x).ev t=some z:=by
 cases x with
 |t i=>
  simp only[Jd,kK2]at a;exact⟨t[i]'(by omega),by simp[eX,IX.ev]⟩
 |c x=>exact⟨eV x,rfl⟩
theorem Fy {t:aA AV} {x y z:IX} {a b c:AV} (h1:x.ev t=some a) (h2:y.ev t=some b) (h3:z.ev t=some c):Sim.evs t [x,y,z]=some [a,b,c]:=by
 simp[Sim.evs,h1,h2,h3]
theorem Aq {N lim:Nat} {A:aA Nat} {C:Cx} {n:Nat} {h:aT} {e:dZ} {t:aA AV} {s:Hp} {c:Nat} {w m y:Bool} {d:gJ} {x:PX} (E:cM C n h lim s) (F:t.length=N) (B:iP N (c::A) true [] d=true) (D:Jd N x=true)
  (hc:t[c]? =some (.v (.bool m)))
  (hy:(bif w then Hh m (cW.opsB O X d e h n x) (some false)else Hh m (some true) (cW.opsB O X d e h n x))=some y)
  (IH:cW.opsB O X d e h n x=some y->Hi (some (c,w)) t->∃fs o s',Tr T X.is dr lim (oY (some (c,w)) d) {t:=t,s:=s} fs {t:=o,s:=s'}/\(eX x).ev o=some (.v (.bool y))/\o.length=N/\(∀(i:Nat),i∉cC d []->o[i]? =t[i]?)/\Mx s s'):
  ∃fs a b,Tr T X.is dr lim (oY (some (c,w)) d) {t:=t,s:=s} fs {t:=a,s:=b}/\a.length=N/\(∀(i:Nat),i∉cC d []->a[i]? =t[i]?)/\Mx s b/\
     ∃zs,Sim.evs a (if w then[.t c,eX x,.c (.v (.bool false))]else[.t c,.c (.v (.bool true)),eX x])=some zs/\doOp (Sim.look b.h) lim b.n .pick zs=some {v:=.v (.bool y)}:=by
 have k:∀a:aA AV,(∀(i:Nat),i∉cC d []->a[i]? =t[i]?)->a[c]? =some (.v (.bool m)):=fun a q=>by
  rw[q c (fun hi=>dW d B c hi (by simp))];exact hc
 have skip:m≠w->∃fs a b,Tr T X.is dr lim (oY (some (c,w)) d) {t:=t,s:=s} fs {t:=a,s:=b}/\a.length=N/\(∀(i:Nat),i∉cC d []->a[i]? =t[i]?)/\Mx s b:=by
  intro p;obtain⟨fs,a,l,f,g,j⟩:=eL (T:=T) (NF:=X.is) (dr:=dr) (lim:=lim) (s:=s) (some (c,w)) d (c::A) [] t B (fun G w' e=>by cases e;simp) (by simp[Sim.wanted,hc,p]) (fun c hc=>by simp at hc);exact⟨fs,a,s,l,f.trans F,g,.refl E.wf⟩
 cases w with
 |true=>
  rw[iT2,mJ]at hy;cases m with
  |true=>
   rw[iJ2 rfl]at hy;obtain⟨fs,a,b,l,f,g,j,u⟩:=IH hy hc;exact⟨fs,a,b,l,g,j,u,[.v (.bool true),.v (.bool y),.v (.bool false)],Fy (k a j) f rfl,rfl⟩
  |false=>
   simp only[iQ2,jS2,iK2]at hy;subst hy;obtain⟨fs,a,b,l,f,g,j⟩:=skip (by simp);obtain⟨z,r⟩:=xZ (c:=0) (i:=0) f D;exact⟨fs,a,b,l,f,g,j,[.v (.bool false),z,.v (.bool false)],Fy (k a g) r rfl,rfl⟩
 |false=>
  rw[jG2,mJ]at hy;cases m with
  |true=>
   simp only[jJ2,iK2]at hy;subst hy;obtain⟨fs,a,b,l,f,g,j⟩:=skip (by simp);obtain⟨z,r⟩:=xZ (c:=0) (i:=0) f D;exact⟨fs,a,b,l,f,g,j,[.v (.bool true),.v (.bool true),z],Fy (k a g) rfl r,rfl⟩
  |false=>
   simp only[iQ2,jS2]at hy;obtain⟨fs,a,b,l,f,g,j,u⟩:=IH hy hc;exact⟨fs,a,b,l,g,j,u,[.v (.bool false),.v (.bool true),.v (.bool y)],Fy (k a j) rfl f,rfl⟩
theorem rW (F:∀f xs v,O f xs=some v->mO T f xs v) {N lim:Nat}:∀(ops:gJ) (a l:aA Nat) (g:aB (Nat×Bool)) (C:Cx) (n:Nat) (h:aT) (e:dZ) (t:aA AV) (s:Hp) (x:PX) (b:Bool),
  cW.opsB O X ops e h n x=some b->cX C e t->cM C n h lim s->t.length=N->iP N a true l ops=true->Jd N x=true->Hi g t->GIn g a->
  ∃fs m s',Tr T X.is dr lim (oY g ops) {t:=t,s:=s} fs {t:=m,s:=s'}/\(eX x).ev m=some (.v (.bool b))/\m.length=N/\(∀(i:Nat),i∉cC ops []->m[i]? =t[i]?)/\Mx s s'
 |.nil,a,l,g,C,n,h,e,t,s,x,b,hk,he,hM,hN,ho,hx,hg,hgi=>by
  unfold cW.opsB at hk
  rw[gT,iC2]at hk
  obtain⟨vs,A,hk⟩:=hk
  obtain⟨ys,h1,h2⟩:=iU he (xs:=[x]) (by simpa using hx) A
  split at hk
  cases hk
  obtain⟨y,_,rfl,h3,h4⟩:=h2.inv_cons
  rw[h4.inv_nil]at h1
  rw[eQ h3]at h1
  refine⟨[],t,s,.nil,?_,hN,fun _ _=>rfl,.refl hM.wf⟩
  simp only[kF2,lR2,Sim.evs]at h1
  split at h1
  grind
  cases h1
  exact aD hk
 |.op d k xs kl r,a,l,g,C,n,h,e,t,s,x,b,hk,he,hM,hN,ho,hx,hg,hgi=>by
  simp only[iP,iD2,iX2,gG,kK2]at ho
  obtain⟨⟨⟨Z,S⟩,G⟩,W⟩:=ho
  have q:d∉a:=by simpa using S
  unfold cW.opsB at hk
  rw[gT,iC2]at hk
  obtain⟨vs,A,hk⟩:=hk
  obtain⟨ys,h1,h2⟩:=iU he G A
  cases hst:Fk k with
  |true=>rw[hst]at hk;exact aD hk
  |false=>
   rw[hst,jG2]at hk
   obtain⟨v,h',n',C',y,s',q1,q2,q3,q4,q5,q6,q7,q8⟩:=Lm F hM h2 hk
   rw[dS]at q1
   have hd:d<t.length:=by omega
   have u:cX C' ((d,v)::edel e (d::kl)) (t.set d y):=.put hd q2 (fun i w hw=>by
    obtain⟨z,p1,p2,p3⟩:=(he.mono q4).edel (d::kl) i w hw
    exact⟨z,p1,p2,fun J=>p3 (by simp[J])⟩)
   obtain⟨fs,m,V,r1,r2,r3,r4,r5⟩:=rW F r a (d::l) g C' n' h' _ (t.set d y) s' x b q1 u q3 (by simpa using hN) W hx (hg.set hgi q) hgi
   obtain⟨f,hf⟩:=q8 ⟨some d,k,xs.map eX,g⟩ _ t fs _ rfl hg.wanted h1 r1
   have P:Mx s s':=⟨q6.sk,q6.n,q3.wf,q7 hst⟩
   refine⟨_,m,V,hf,r2,r3,fun i hi=>?_,P.trans r5⟩
   simp only[cC,iY2,lI2]at hi
   rw[r4 i hi.2,jB2 (Ne.symm hi.1)]
 |.ifx d c w bd x' kl r,a,l,g,C,n,h,e,t,s,x,b,hk,he,hM,hN,ho,hx,hg,hgi=>by
  simp only[iP,iD2,iX2,gG,kK2,Bool.not_true,Bool.false_or]at ho
  obtain⟨⟨⟨⟨⟨Z,S⟩,G⟩,W⟩,U⟩,o6⟩:=ho
  have q:d∉a:=by simpa using S
  unfold cW.opsB at hk
  rw[fB,iC2]at hk
  obtain⟨cv,L,hk⟩:=hk
  split at hk
  rename_i cb
  rw[bT,iC2]at hk
  obtain⟨y,hy,hk⟩:=hk
  rw[dS]at hk
  obtain⟨cy,B,K⟩:=he c _ L
  rw[eQ K]at B
  obtain⟨fs,H,s1,p1,p2,p3,p4,zs,p5,p6⟩:=Aq (T:=T) (O:=O) (X:=X) (dr:=dr) hM hN U G B hy (fun hb M=>rW F bd (c::a) [] (some (c,w)) C n h e t s x' y hb he hM hN U G M (fun E w' e=>by cases e;simp))
  have D:Hi g H:=by
   cases g with
   |none=>trivial
   |some p=>
    obtain⟨E,w'⟩:=p;simp only[Hi]at hg ⊢;rw[p3 E (fun hi=>dW bd U E hi (by simp[hgi E w' rfl]))];exact hg
  have hd:d<H.length:=by omega
  have u:cX C ((d,.v (.bool y))::edel e (d::cC bd kl)) (H.set d (.v (.bool y))):=.put hd (.cl (.v _)) (fun i w hw=>by
   obtain⟨z,q1,q2,q3⟩:=he.edel (d::cC bd kl) i w hw;have R:i∉cC bd []:=fun hi=>q3 (by simp[(cN bd kl i).2 (.inl hi)]);exact⟨z,by rw[p3 i R];exact q1,q2,fun J=>q3 (by simp[J])⟩)
  obtain⟨Y,m,V,r1,r2,r3,r4,r5⟩:=rW F r a (d::l) g C n h _ (H.set d (.v (.bool y))) s1 x b hk u (hM.grow p4) (by simpa using p2) o6 hx (D.set hgi q) hgi;refine⟨_,m,V,p1.append (.op (o:=⟨some d,.pick,_,g⟩) D.wanted p5 rfl p6 r1),r2,r3,fun i hi=>?_,p4.trans r5⟩;simp only[cC,iY2,cN bd (cC r []) i,lI2]at hi;rw[r4 i hi.2.2,jB2 (Ne.symm hi.1),p3 i hi.2.1];exact aD hk
 |.sto k xs kl r,a,l,g,C,n,h,e,t,s,x,b,hk,he,hM,hN,ho,hx,hg,hgi=>by unfold cW.opsB at hk;exact aD hk
 |.ifn d c w bd x' kl r,a,l,g,C,n,h,e,t,s,x,b,hk,he,hM,hN,ho,hx,hg,hgi=>by unfold cW.opsB at hk;exact aD hk
 |.mkfl d ty zero xs kl r,a,l,g,C,n,h,e,t,s,x,b,hk,he,hM,hN,ho,hx,hg,hgi=>by unfold cW.opsB at hk;exact aD hk
 |.lax d es r,a,l,g,C,n,h,e,t,s,x,b,hk,he,hM,hN,ho,hx,hg,hgi=>by unfold cW.opsB at hk;exact aD hk
 |.own d ty es g' r,a,l,g,C,n,h,e,t,s,x,b,hk,he,hM,hN,ho,hx,hg,hgi=>by unfold cW.opsB at hk;exact aD hk
 |.ownc d j ty es g' r,a,l,g,C,n,h,e,t,s,x,b,hk,he,hM,hN,ho,hx,hg,hgi=>by unfold cW.opsB at hk;exact aD hk
 |.laxc d j es r,a,l,g,C,n,h,e,t,s,x,b,hk,he,hM,hN,ho,hx,hg,hgi=>by unfold cW.opsB at hk;exact aD hk
 |.fz d j r,a,l,g,C,n,h,e,t,s,x,b,hk,he,hM,hN,ho,hx,hg,hgi=>by unfold cW.opsB at hk;exact aD hk
 |.laxm d j r,a,l,g,C,n,h,e,t,s,x,b,hk,he,hM,hN,ho,hx,hg,hgi=>by unfold cW.opsB at hk;exact aD hk
end
end Go.P
namespace Go.P
open Go.Sim (AV AO Hp fA upd St IC IX Ex dV CK Wf Out doOp gO exec Foot wanted put)
def mQ (C:Cx) (p:Nat->Bool):Cx:=⟨fun k=>if p k then C k else none,C.z⟩
theorem Cn {C:Cx} {p:Nat->Bool} {x:PV} {y:AV} (h:RV C x y):∀{d:Nat},kX p d x=true->RV (mQ C p) x y:=by
 have lt:∀{k:Nat} {pl:Pl},C k=some pl->p k=true->mQ C p k=some pl:=fun h1 h2=>by simp[mQ,h2,h1]
 induction h with
 |cl h=>intro d hb;exact .cl h
 |undef=>intro d hb;exact .undef
 |ref h=>intro d hb;cases d with
  |zero=>cases hb
  |succ d=>exact .ref (lt h hb)
 |own h=>intro d hb;cases d with
  |zero=>cases hb
  |succ d=>exact .own (lt h hb)
 |ownn h hy=>intro d hb;cases d with
  |zero=>cases hb
  |succ d=>exact .ownn (lt h hb) hy
 |el h=>intro d hb;cases d with
  |zero=>cases hb
  |succ d=>exact .el (lt h hb)
 |map h=>intro d hb;cases d with
  |zero=>cases hb
  |succ d=>exact .map (lt h hb)
 |yld h=>intro d hb;cases d with
  |zero=>cases hb
  |succ d=>exact .yld (lt h hb)
 |fn h1 h2 v1 v2 i1 i2=>intro d hb;cases d with
  |zero=>cases hb
  |succ d=>
   simp only[kX,iD2]at hb;exact .fn h1 h2 (fun j x y a hy=>i1 j x y a hy (iM2.1 hb.1 x (iN2 a))) (fun j x y a hy=>i2 j x y a hy (iM2.1 hb.2 x (iN2 a)))
 |agg hl hc ih=>intro d hb;cases d with
  |zero=>cases hb
  |succ d=>exact .agg hl (fun j x y a hy=>ih j x y a hy (iM2.1 hb x (iN2 a)))
 |tup hl hc ih=>intro d hb;cases d with
  |zero=>cases hb
  |succ d=>exact .tup hl (fun j x y a hy=>ih j x y a hy (iM2.1 hb x (iN2 a)))
 |zs h=>intro d hb;exact .zs h
 |zm h he=>intro d hb;exact .zm h he
 |zm0=>intro d hb;exact .zm0
theorem vM:∀(h:aT) (k:Nat),iM h k=(aM h k).isSome
 |[],k=>rfl
 |(j,o)::r,k=>by
  simp only[iM,aM,bK]
  by_cases e:j=k<;>simp[e,vM r k]
section
variable {R:Type}
theorem tP:∀{h:aT} {c:aA Nat} {K:aT->aT->aB R} {r:R},Fi h c K=some r->∃a b,K a b=some r/\∀k,aM a k=(if zB k c then aM h k else none)/\aM b k=(if zB k c then none else aM h k)
 |[],c,K,r,hk=>⟨[],[],hk,fun k=>by simp[aM]⟩
 |(j,o)::t,c,K,r,hk=>by
  unfold Fi at hk
  obtain⟨a,b,h1,h2⟩:=tP hk
  cases hm:zB j c with
  |true=>
   rw[hm,iT2]at h1
   refine⟨_,_,h1,fun k=>?_⟩
   simp only[aM]
   by_cases e:j=k
   grind
   grind
  |false=>
   rw[hm,jG2]at h1
   refine⟨_,_,h1,fun k=>?_⟩
   simp only[aM]
   by_cases e:j=k
   grind
   grind
theorem Ar:∀{a b:aT} {K:aT->aB R} {r:R},xK a b K=some r->∃c,K c=some r/\∀k,aM c k=(aM a k).or (aM b k)
 |[],b,K,r,hk=>⟨b,hk,fun k=>by simp[aM]⟩
 |(j,o)::t,b,K,r,hk=>by
  unfold xK at hk
  obtain⟨c,h1,h2⟩:=Ar hk
  refine⟨_,h1,fun k=>?_⟩
  simp only[aM]
  by_cases e:j=k
  simp[e]
  grind
theorem As:∀(a:aT) (K:aT->aB R),xK a [] K=K a
 |[],K=>rfl
 |(j,o)::t,K=>by unfold xK;rw[As t]
theorem fO {f:PV->aA Nat->(aA Nat->aB R)->aB R} (hf:∀x a K r,f x a K=some r->∃a',K a'=some r):∀(xs:aA PV) (a:aA Nat) (K:aA Nat->aB R) (r:R),oD f xs a K=some r->∃a',K a'=some r
 |[],a,K,r,h=>⟨a,h⟩
 |x::xs,a,K,r,h=>by
  unfold oD at h
  obtain⟨a',h⟩:=hf x a _ r h
  exact fO hf xs a' K r h
theorem yA {f:PV->aA Nat->(aA Nat->aB R)->aB R} (hf:∀x a K r,f x a K=some r->∃a',K a'=some r):∀(xs:dZ) (a:aA Nat) (K:aA Nat->aB R) (r:R),Kv f xs a K=some r->∃a',K a'=some r
 |[],a,K,r,h=>⟨a,h⟩
 |(_,x)::xs,a,K,r,h=>by
  unfold Kv at h
  obtain⟨a',h⟩:=hf x a _ r h
  exact yA hf xs a' K r h
theorem iB:∀(d:Nat) (x:PV) (a:aA Nat) (K:aA Nat->aB R) (r:R),jG d x a K=some r->∃a',K a'=some r
 |0,x,a,K,r,h=>by unfold jG at h;exact aD h
 |d+1,x,a,K,r,h=>by
  have ih:=iB d
  unfold jG at h
  cases x with
  |ref k o=>exact⟨_,h⟩
  |own k=>exact⟨_,h⟩
  |el k i o=>exact⟨_,h⟩
  |map k=>exact⟨_,h⟩
  |yld k=>exact⟨_,h⟩
  |fn f p q=>
   obtain⟨a',h⟩:=fO ih p a _ r h
   exact fO ih q a' K r h
  |agg cs=>exact fO ih cs a K r h
  |tup cs=>exact fO ih cs a K r h
  |_=>exact⟨_,h⟩
theorem eS {h:aT}:∀(n:Nat) (b a:aA Nat) (K:aA Nat->aB R) (r:R),kG h n b a K=some r->∃a',K a'=some r
 |0,b,a,K,r,hk=>by unfold kG at hk;exact aD hk
 |n+1,[],a,K,r,hk=>by unfold kG at hk;exact⟨a,hk⟩
 |n+1,k::b,a,K,r,hk=>by
  unfold kG at hk
  cases hm:zB k a with
  |true=>rw[hm,iT2]at hk;exact eS n b a K r hk
  |false=>
   rw[hm,jG2,eK,iC2]at hk
   obtain⟨ob,_,hk⟩:=hk
   cases ob with
   |box cs=>
    obtain⟨c,hk⟩:=fO (iB 4) cs b _ r hk
    exact eS n c _ K r hk
   |fl cs=>
    obtain⟨c,hk⟩:=fO (iB 4) cs b _ r hk
    exact eS n c _ K r hk
   |loop N e ps x y busy fin=>
    obtain⟨c,hk⟩:=yA (iB 4) e b _ r hk
    exact eS n c _ K r hk
   |lst ty e g rows=>exact eS n b _ K r hk
   |lz ty e dp rows=>exact eS n b _ K r hk
   |mp es=>exact eS n b _ K r hk
def So (hs:aT) (C C':Cx):Prop:=(∀k,C' k=C k\/∃o,(k,o)∈hs/\eO o=false)/\∀id o,C.z id=some o->C'.z id=some o
theorem qF:∀{hs:aT} {e:dZ} {h:aT} {K:dZ->aT->aB R} {r:R},mK hs e h K=some r->∃e' h',K e' h'=some r/\
  (∀i w,dR e' i=some w->∃v,dR e i=some v/\∀{C C':Cx} {y:AV},So hs C C'->RV C v y->RV C' w y)/\
  (∀j,aM h' j=none↔aM h j=none)/\∀j o',aM h' j=some o'->∃o,aM h j=some o/\eO o'=eO o/\
   ∀{C C':Cx} {L:Nat->aB AO} {lim nS:Nat} {pl:Pl},So hs C C'->iO C L lim nS o pl->iO C' L lim nS o' pl
 |[],e,h,K,r,hk=>by
  refine⟨e,h,hk,fun i w hw=>⟨w,hw,fun{C C' y} hd hv=>?_⟩,fun j=>Iff.rfl,fun j o m=>⟨o,m,rfl,fun{C C' L lim nS pl} hd p=>?_⟩⟩
  have:∀k,C' k=C k:=fun k=>(hd.1 k).elim id (fun⟨_,h1,_⟩=>by simp at h1)
  exact hv.mono ⟨fun k pl h=>(this k).trans h,hd.2⟩
  have:∀k,C' k=C k:=fun k=>(hd.1 k).elim id (fun⟨_,h1,_⟩=>by simp at h1)
  exact p.mono (iH2 _) ⟨fun k pl h=>(this k).trans h,hd.2⟩ (fun _ _ _ _ _=>rfl)
 |(k,o)::t,e,h,K,r,hk=>by
  have other:eO o=true->mK t e h K=some r->∃e' h',K e' h'=some r/\
    (∀i w,dR e' i=some w->∃v,dR e i=some v/\∀{C C':Cx} {y:AV},So ((k,o)::t) C C'->RV C v y->RV C' w y)/\
    (∀j,aM h' j=none↔aM h j=none)/\∀j o',aM h' j=some o'->∃c,aM h j=some c/\eO o'=eO c/\
     ∀{C C':Cx} {L:Nat->aB AO} {lim nS:Nat} {pl:Pl},So ((k,o)::t) C C'->iO C L lim nS c pl->iO C' L lim nS o' pl:=by
   intro s hk;obtain⟨e',h',q1,q2,q3,q4⟩:=qF hk
   have hd:∀{C C':Cx},So ((k,o)::t) C C'->So t C C':=fun{C C'} hd=>⟨fun j=>by
    rcases hd.1 j with h1|⟨c,h1,hx⟩
    exact .inl h1;rcases iY2.1 h1 with h2|h2;cases h2;rw[s]at hx;cases hx;exact .inr ⟨_,h2,hx⟩,hd.2⟩
   refine⟨e',h',q1,fun i w hw=>?_,q3,fun j o' m=>?_⟩;obtain⟨v,p1,p2⟩:=q2 i w hw;exact⟨v,p1,fun d hv=>p2 (hd d) hv⟩;obtain⟨c,p1,p2,p3⟩:=q4 j o' m;exact⟨c,p1,p2,fun d p=>p3 (hd d) p⟩
  have f:eO o=false->(nC k e fun e=>jA k h fun h=>mK t e h K)=some r->∃e' h',K e' h'=some r/\
    (∀i w,dR e' i=some w->∃v,dR e i=some v/\∀{C C':Cx} {y:AV},So ((k,o)::t) C C'->RV C v y->RV C' w y)/\
    (∀j,aM h' j=none↔aM h j=none)/\∀j o',aM h' j=some o'->∃c,aM h j=some c/\eO o'=eO c/\
     ∀{C C':Cx} {L:Nat->aB AO} {lim nS:Nat} {pl:Pl},So ((k,o)::t) C C'->iO C L lim nS c pl->iO C' L lim nS o' pl:=by
   intro hb hk;obtain⟨e2,hk,q⟩:=iQ _ _ _ hk;obtain⟨h2,hk,n⟩:=jV _ _ _ hk;obtain⟨e',h',q1,q2,q3,q4⟩:=qF hk
   have l:∀{C C':Cx},So ((k,o)::t) C C'->jQ k C ⟨fun j=>if j=k then C' j else C j,C'.z⟩/\So t ⟨fun j=>if j=k then C' j else C j,C'.z⟩ C':=fun{C C'} hd=>by
    refine⟨⟨fun j m=>iL2 m,hd.2⟩,⟨fun j=>?_,fun _ _ h=>h⟩⟩;by_cases e:j=k;exact .inl (by simp[e]);rcases hd.1 j with h1|⟨c,h1,hx⟩
    exact .inl (by simp[e,h1]);rcases iY2.1 h1 with h2|h2;cases h2;exact absurd rfl e;exact .inr ⟨_,h2,hx⟩
   refine⟨e',h',q1,fun i w hw=>?_,fun j=>(q3 j).trans (n.1 j),fun j o' m=>?_⟩;obtain⟨v,p1,p2⟩:=q2 i w hw;obtain⟨A,w1,u⟩:=q i v p1;exact⟨A,w1,fun d hv=>p2 (l d).2 (u (l d).1 hv)⟩;obtain⟨c,p1,p2,p3⟩:=q4 j o' m;obtain⟨x,w1,u,B⟩:=n.2 j c p1;exact⟨x,w1,p2.trans u,fun d p=>p3 (l d).2 (B (l d).1 p)⟩
  unfold mK at hk;cases o with
  |box cs=>exact other rfl hk
  |mp es=>exact other rfl hk
  |fl fs=>exact other rfl hk
  |loop N e ps a b busy fin=>exact other rfl hk
  |lz ty e1 dp rows=>exact f rfl hk
  |lst ty e1 g rows=>
   cases hfx:fU ty with
   |true=>
    simp only[hfx,iT2]at hk;exact other hfx hk
   |false=>
    simp only[hfx,jG2]at hk;exact f hfx hk
end
end Go.P
namespace Go.P
open Go.Sim (AV AO Hp fA upd St IC IX Ex dV CK Wf Out doOp gO exec Foot wanted put)
section
variable {R:Type} {C:Cx} {n:Nat} {h:aT} {lim:Nat} {s:Hp}
theorem yB:∀{e:dZ} {i:Nat} {v:PV},dR e i=some v->(i,v)∈e
 |[],i,v,h=>by simp[dR]at h
 |(j,w)::r,i,v,h=>by
  simp only[dR]at h
  split at h
  grind
  exact kI2 _ (yB h)
theorem Fz:∀{h:aT} {i:Nat} {v:gD},aM h i=some v->(i,v)∈h
 |[],i,v,h=>by simp[aM]at h
 |(j,w)::r,i,v,h=>by
  simp only[aM]at h
  split at h
  grind
  exact kI2 _ (Fz h)
theorem Co {p:Nat->Bool} {xs:aA PV} {ys:aA AV} {d:Nat} (h:LR (RV C) xs ys) (hp:xs.all (kX p d)=true):LR (RV (mQ C p)) xs ys:=
 ⟨h.1,fun j x y a b=>Cn (h.2 j x y a b) (iM2.1 hp x (iN2 a))⟩
theorem Sp {p:Nat->Bool} {L:Nat->aB AO} {nS:Nat} {o:gD} {pl:Pl} (j:Ce p o=true) (h:iO C L lim nS o pl):iO (mQ C p) L lim nS o pl:=by
 cases o with
 |box cs=>
  cases pl with
  |nil=>exact h
  |atp id ver e len=>
   obtain⟨h1,h2,ty,esz,row,h3,h4⟩:=h;exact⟨h1,h2,ty,esz,row,h3,Co h4 j⟩
 |lst ty e g rows=>cases pl<;>exact h
 |lz ty e dp rows=>cases pl<;>exact h
 |mp es=>cases pl<;>exact h
 |fl fs=>
  cases pl with
  |nil=>exact h
  |atp id ver e len=>
   obtain⟨h1,h2,h3,h4,ty,els,h5,c,k⟩:=h;refine⟨h1,h2,h3,h4,ty,els,h5,c,fun i f row a b=>Co (d:=4) (k i f row a b) ?_⟩;have:=iM2.1 j f (iN2 a);simp[this]
 |loop N e ps a b busy fin=>
  cases pl with
  |nil=>exact h
  |atp id ver e' len=>
   obtain⟨h1,h2,st,pend,tmps,h3,h4,h5,c⟩:=h;refine⟨h1,h2,st,pend,tmps,h3,h4,fun i v hv=>?_,c⟩;obtain⟨y,l,m⟩:=h5 i v hv;exact⟨y,l,Cn m (iM2.1 j _ (yB hv))⟩
theorem rX {p:Nat->Bool}:∀{h:aT},jB p h=true->∀{k:Nat} {o:gD},aM h k=some o->Ce p o=true
 |[],_,k,o,h=>by simp[aM]at h
 |(j,o')::r,hp,k,o,h=>by
  simp only[jB,iD2]at hp
  simp only[aM]at h
  split at h
  cases h;exact hp.1
  exact rX hp.2 h
theorem yC:∀{h:aT} {k:Nat},aM h k≠none->k∈tF h
 |[],k,h=>by simp[aM]at h
 |(j,o)::r,k,h=>by
  simp only[aM]at h
  simp only[tF,iY2]
  split at h
  omega
  exact .inr (yC h)
theorem Au {a:aT}:∀{ks:aA Nat},Ri a ks=true->∀k∈ks,aM a k≠none
 |[],_,k,hk=>by simp at hk
 |j::r,h,k,hk=>by
  unfold Ri at h
  cases hh:iM a j with
  |false=>rw[hh]at h;cases h
  |true=>
   rw[hh,iT2]at h
   rcases iY2.1 hk with rfl|hk
   rw[vM]at hh
   cases hg:aM a k with
   |none=>rw[hg]at hh;cases hh
   |some o=>simp
   exact Au h k hk
theorem Av {hs:aT}:∀{a:aT},Rh hs n a=true->∀{k:Nat},aM a k≠none->aM hs k≠none\/n<=k
 |[],_,k,hk=>by simp[aM]at hk
 |(j,o)::r,h,k,hk=>by
  unfold Rh at h
  cases b:(iM hs j||Nat.ble n j)with
  |false=>rw[b]at h;cases h
  |true=>
   rw[b,iT2]at h
   simp only[aM]at hk
   split at hk
   rename_i e
   subst e
   simp only[iS2,vM,Nat.ble_eq]at b
   rcases b with b|b
   grind
   exact .inr b
   exact Av h hk
theorem kI {h:aT} {k:Nat}:iM h k=true↔aM h k≠none:=by
 rw[vM];cases aM h k<;>simp
theorem cM.part {hs:aT} (g:cM C n h lim s) (f:∀k o,aM hs k=some o->aM h k=some o) (m:jB (iM hs) hs=true):cM (mQ C (iM hs)) n hs lim s:=by
 have j:∀k,aM hs k≠none->aM h k≠none:=fun k hk=>by
  cases hc:aM hs k with
  |none=>exact absurd hc hk
  |some o=>rw[f k o hc];simp
 have i:∀k pl,mQ C (iM hs) k=some pl->C k=some pl:=fun k pl hk=>by
  simp only[mQ]at hk;split at hk;exact hk;cases hk
 refine⟨⟨fun k o hk=>?_,fun k k' id v e l v' e' l' a b c d=>g.hr.inj k k' id v e l v' e' l' (j k a) (j k' b) (i _ _ c) (i _ _ d),fun id o p=>?_⟩,fun k pl hk=>g.dom k pl (i k pl hk),g.wf,g.lim⟩;obtain⟨pl,h1,h2⟩:=g.hr.ob k o (f k o hk);refine⟨pl,?_,Sp (rX m hk) h2⟩;simp only[mQ];rw[iJ2 (kI.2 (by rw[hk];simp))];exact h1;obtain⟨z1,z2,z3,z4⟩:=g.hr.zr id o p;exact⟨z1,z2,fun k v e l a b=>z3 k v e l (j k a) (i _ _ b),z4⟩
theorem tQ {hs:aT}:∀{a:aT},Rj hs a=true->∀{k:Nat},aM a k≠none->aM hs k≠none
 |[],_,k,hk=>by simp[aM]at hk
 |(j,o)::r,h,k,hk=>by
  unfold Rj at h
  cases hh:iM hs j with
  |false=>rw[hh]at h;cases h
  |true=>
   rw[hh,iT2]at h
   simp only[aM]at hk
   split at hk
   rename_i e;subst e;exact kI.1 hh
   exact tQ h hk
theorem Cp:∀(h:aT) (m:Nat),m<=Wk h m
 |[],m=>iH2 _
 |(k,o)::r,m=>by
  unfold Wk
  cases hb:Nat.blt k m with
  |true=>rw[iT2];exact Cp r m
  |false=>
   rw[jG2]
   have:=Cp r (k+1)
   have h2:¬k<m:=fun a=>by rw[<-kK2,hb]at a;cases a
   omega
theorem yD:∀(h:aT) (m k:Nat),aM h k≠none->k<Wk h m
 |[],m,k,hk=>by simp[aM]at hk
 |(j,o)::r,m,k,hk=>by
  simp only[aM]at hk
  unfold Wk
  cases hb:Nat.blt j m with
  |true=>
   rw[iT2]
   split at hk
   rename_i e
   rw[kK2]at hb
   have:=Cp r m
   omega
   exact yD r m k hk
  |false=>
   rw[jG2]
   split at hk
   have:=Cp r (j+1);omega
   exact yD r (j+1) k hk
theorem Cq {P:AV->Hp->Prop} {run:aT->Nat->(PV->aT->Nat->aB (PV×aT×Nat))->aB (PV×aT×Nat)} {xs:aA PV} {ys:aA AV} {e:dZ} {t:aA AV} {kill:aA Nat} {nw:Bool} {K:PV->dZ->aT->Nat->aB R} {r:R}
  (E:cM C n h lim s) (he:cX C e t) (hx:LR (RV C) xs ys)
  (b7:∀(hs:aT) (C0:Cx) (m:Nat) (K':PV->aT->Nat->aB (PV×aT×Nat)) (r':PV×aT×Nat),cM C0 m hs lim s->LR (RV C0) xs ys->run hs m K'=some r'->
   ∃v h' n' C' y s',K' v h' n'=some r'/\RV C' v y/\cM C' n' h' lim s'/\m<=n'/\Fr C0 hs s C' h' s'/\P y s')
  (hk:inK run nw xs e h n kill K=some r):
  ∃v e' h' n' C' y s',K v e' h' n'=some r/\RV C' v y/\(∀i w,dR e' i=some w->∃z,t[i]? =some z/\RV C' w z/\i∉kill)/\cM C' n' h' lim s'/\n<=n'/\Fr C h s C' h' s'/\P y s':=by
 unfold inK at hk;obtain⟨d8,hk⟩:=fO (iB 5) _ _ _ _ hk;obtain⟨ns,hk⟩:=eS _ _ _ _ _ hk;obtain⟨hs,U,hk,u⟩:=tP hk;cases hch:(xs.all (kX (iM hs) 5)&&jB (iM hs) hs)with
 |false=>rw[hch]at hk;exact aD hk
 |true=>
 rw[hch,iT2,bT,iC2]at hk;obtain⟨r',hq,hk⟩:=hk;simp only[iD2]at hch
 have G:∀k o,aM hs k=some o->aM h k=some o:=fun k o f=>by
  rw[(u k).1]at f;split at f;exact f;cases f
 have b8:∀{k},aM hs k≠none->k<n:=fun{k} hk=>by
  cases hc:aM hs k with
  |none=>exact absurd hc hk
  |some o=>obtain⟨pl,p1,_⟩:=E.hr.ob k o (G k o hc);exact E.dom k pl p1
 have F:=E.part G hch.2
 have d0:cM (mQ C (iM hs)) (bif nw then n else Wk hs 0) hs lim s:=⟨F.hr,(fun k pl j=>by
  cases nw with
  |true=>exact F.dom k pl j
  |false=>
   simp only[mQ]at j;split at j;rename_i S;exact yD hs 0 k (kI.1 S);cases j),F.wf,F.lim⟩
 obtain⟨v,h',n',C',y,s',w1,w2,w3,w4,J,w6⟩:=b7 hs _ _ _ r' d0 (Co hx hch.1) hq;unfold Nm at w1;obtain⟨d7,w1⟩:=fO (iB 5) _ _ _ _ w1;obtain⟨d9,w1⟩:=eS _ _ _ _ _ w1;obtain⟨h2,_,w1,V⟩:=tP w1;cases hch2:(Ri h2 (tF hs)&&(bif nw then Rh hs (bif nw then n else Wk hs 0) h2 else Rj hs h2)&&(kX (iM h2) 5 v&&jB (iM h2) h2))with
 |false=>rw[hch2]at w1;exact aD w1
 |true=>
 rw[hch2,iT2]at w1;cases w1;simp only[iD2]at hch2;obtain⟨⟨c1,c2⟩,c3,c4⟩:=hch2;have d2:∀{k},aM hs k≠none->aM h2 k≠none:=fun{k} hk=>Au c1 k (yC hk)
 have W:∀{k},aM h2 k≠none->aM hs k≠none\/n<=k:=fun{k} T=>by
  cases nw with
  |true=>exact Av c2 T
  |false=>exact .inl (tQ c2 T)
 have A:∀k o,aM h2 k=some o->aM h' k=some o:=fun k o f=>by
  rw[(V k).1]at f;split at f;exact f;cases f
 have d1:=w3.part A c4;rw[Lb]at hk;simp only[As,dS]at hk;obtain⟨e',H,hk,k1,k2,k3⟩:=qF hk;obtain⟨hc,hk,k4⟩:=Ar hk;let C3:Cx:=⟨fun k=>if iM h2 k then C' k else C k,C'.z⟩
 let C1:Cx:=⟨fun k=>if k<n then C3 k else none,C'.z⟩
 have c3in:∀{k},aM h2 k≠none->C3 k=C' k:=fun{k} hk=>iJ2 (kI.2 hk);have c3out:∀{k},aM h2 k=none->C3 k=C k:=fun{k} hk=>iL2 (fun S=>kI.1 S hk)
 have T:∀{k},aM h k≠none->k<n:=fun{k} hk=>by
  cases hc:aM h k with
  |none=>exact absurd hc hk
  |some o=>obtain⟨pl,p1,_⟩:=E.hr.ob k o hc;exact E.dom k pl p1
 have d5:∀{k},aM hs k≠none->aM h k≠none:=fun{k} hk=>by
  cases hc:aM hs k with
  |none=>exact absurd hc hk
  |some o=>rw[G k o hc];simp
 have rs:∀{k},aM hs k≠none->mQ C (iM hs) k=C k:=fun{k} hk=>by simp only[mQ];rw[iJ2 (kI.2 hk)]
 have d6:∀{k pl},mQ C (iM hs) k=some pl->C k=some pl:=fun{k pl} hk=>by
  simp only[mQ]at hk;split at hk;exact hk;cases hk
 have Z:∀{k pl},mQ C' (iM h2) k=some pl->C3 k=some pl:=fun{k pl} hk=>by
  simp only[mQ]at hk;split at hk;rename_i S;rw[c3in (kI.1 S)];exact hk;cases hk
 have a0:So h2 C C1:=⟨fun k=>(by
  by_cases b4:k<n;have e1:C1 k=C3 k:=iJ2 b4;rw[e1];by_cases g:aM h2 k=none;exact .inl (c3out g);rw[c3in g];rcases W g with hq|hq;cases hc2:aM hs k with
  |none=>exact absurd hc2 hq
  |some o=>
   obtain⟨o',q1,q2⟩:=J.kd k o hc2
   have q3:aM h2 k=some o':=by
    cases hc3:aM h2 k with
    |none=>exact absurd hc3 g
    |some o2=>rw[A k o2 hc3]at q1;exact q1
   cases hb:eO o' with
   |true=>left;rw[(q2 hb).2,rs hq]
   |false=>
    right;exact⟨o',Fz q3,hb⟩
  omega;left;have:C1 k=none:=iL2 b4;rw[this,Rm E (by omega)]),J.zl⟩
 have c13:C1.le C3:=⟨fun k pl hk=>(by
  simp only[C1]at hk;split at hk;exact hk;cases hk),fun _ _ h=>h⟩
 have N:∀{k o'},aM H k=some o'->∃o,aM h k=some o/\aM hs k=none/\aM h2 k=none/\eO o'=eO o/\∀{L:Nat->aB AO} {lim nS:Nat} {pl:Pl},iO C L lim nS o pl->iO C1 L lim nS o' pl:=fun{k o'} f=>by
  obtain⟨o,q1,q2,q3⟩:=k3 k o' f;rw[(u k).2]at q1;split at q1;cases q1;rename_i X;have h1:aM hs k=none:=by rw[(u k).1,iL2 X]
  refine⟨o,q1,h1,?_,q2,fun d4=>q3 a0 d4⟩;cases hc2:aM h2 k with
  |none=>rfl
  |some o2=>
   rcases W (k:=k) (by rw[hc2];simp)with q|q;exact absurd h1 q;have:=T (k:=k) (by rw[q1];simp);omega
 have O:∀{k},aM hc k≠none->aM h2 k≠none\/(aM h2 k=none/\aM H k≠none):=fun{k} hk=>by
  rw[k4 k]at hk;cases hc2:aM h2 k with
  |none=>right;refine⟨rfl,?_⟩;rw[hc2]at hk;simpa using hk
  |some o=>left;simp
 have p:∀{k},aM H k≠none->aM h k≠none/\aM hs k=none/\aM h2 k=none:=fun{k} hk=>by
  cases hc2:aM H k with
  |none=>exact absurd hc2 hk
  |some o'=>obtain⟨o,q1,q2,q3,_⟩:=N hc2;exact⟨by rw[q1];simp,q2,q3⟩
 have M:∀{k},aM h2 k≠none->aM h' k≠none:=fun{k} hk=>by
  cases hc2:aM h2 k with
  |none=>exact absurd hc2 hk
  |some o=>rw[A k o hc2];simp
 have B:∀{id},Own (mQ C (iM hs)) hs id->∃k v e l,aM hs k≠none/\aM h k≠none/\C k=some (.atp id v e l):=fun{id} U=>by
  obtain⟨k,v,e,l,q1,q2⟩:=U;exact⟨k,v,e,l,q1,d5 q1,d6 q2⟩
 have D:∀{k id v e l},aM h k≠none->aM hs k=none->C k=some (.atp id v e l)->¬Own (mQ C (iM hs)) hs id:=fun{k id v e l} a b c U=>by
  obtain⟨k',v',e',l',q1,q2,q3⟩:=B U;have:=E.hr.inj k k' id _ _ _ _ _ _ a q2 c q3;subst this;exact q1 b
 have b9:∀{k k' id v e l v' e' l'},aM h2 k≠none->aM H k'≠none->C3 k=some (.atp id v e l)->C3 k'=some (.atp id v' e' l')->False:=fun{k k' id v e l v' e' l'} a b c d=>by
  obtain⟨b1,b2,b3⟩:=p b;rw[c3in a]at c;rw[c3out b3]at d;have x:=(E.hr.lt b1 d).2;exact D b1 b2 d (J.own id x ⟨k,v,e,l,M a,c⟩)
 refine⟨v,e',hc,_,C3,y,s',hk,(Cn w2 c3).mono ⟨fun _ _ S=>Z S,fun _ _ h=>h⟩,fun i w hw=>?_,⟨⟨fun k o f=>?_,fun k k' id v e l v' e' l' a b c d=>?_,fun id o hz=>?_⟩,fun k pl j=>?_,w3.wf,w3.lim⟩,?_,⟨J.sk,J.n,fun id x hn=>J.keep id x (fun U=>hn ?_),fun id x U=>?_,fun k o f=>?_,J.zl,fun id x hz=>?_⟩,w6⟩;obtain⟨v0,q1,q2⟩:=k1 i w hw;obtain⟨z,p1,p2,p3⟩:=he.edel kill i v0 q1;exact⟨z,p1,(q2 a0 p2).mono c13,p3⟩;rw[k4 k]at f;cases hc2:aM h2 k with
 |some o2=>
  rw[hc2]at f;cases f;obtain⟨pl,q1,q2⟩:=d1.hr.ob k _ hc2;exact⟨pl,Z q1,q2.mono (iH2 _) ⟨fun _ _ S=>Z S,fun _ _ h=>h⟩ (fun _ _ _ _ _=>rfl)⟩
 |none=>
  rw[hc2]at f;obtain⟨o0,q1,q2,q3,q4,q5⟩:=N (by simpa using f);obtain⟨pl,p1,p2⟩:=E.hr.ob k o0 q1;refine⟨pl,by rw[c3out hc2];exact p1,(q5 p2).mono J.n c13 (fun id v e l hp=>?_)⟩;subst hp;exact J.keep id p2.lt.2 (D (by rw[q1];simp) q2 p1)
 rcases O a with a|⟨a1,a⟩<;>rcases O b with b|⟨b1,b⟩
 rw[c3in a]at c;rw[c3in b]at d;exact w3.hr.inj k k' id v e l v' e' l' (M a) (M b) c d;exact(b9 a b c d).elim;exact(b9 b a d c).elim;rw[c3out a1]at c;rw[c3out b1]at d;exact E.hr.inj k k' id v e l v' e' l' (p a).1 (p b).1 c d;obtain⟨z1,z2,z3,z4⟩:=w3.hr.zr id o hz;refine⟨z1,z2,fun k v e l a b=>?_,z4⟩;rcases O a with a|⟨a1,a⟩
 rw[c3in a]at b;exact z3 k v e l (M a) b;rw[c3out a1]at b;obtain⟨b1,b2,b3⟩:=p a;have x:=(E.hr.lt b1 b).2;rcases J.zn id x (by rw[show C'.z id=some o from hz];simp)with Y|Y;cases hz1:C.z id with
 |none=>exact Y hz1
 |some o1=>exact(E.hr.zr id o1 hz1).2.2.1 k v e l b1 b
 exact D b1 b2 b Y;cases nw with
 |true=>
  simp only[iT2]at w4 ⊢;by_cases g:aM h2 k=none;rw[c3out g]at j;have:=E.dom k pl j;omega;rw[c3in g]at j;exact w3.dom k pl j
 |false=>
  simp only[jG2];by_cases g:aM h2 k=none;rw[c3out g]at j;exact E.dom k pl j;exact b8 (tQ c2 g)
 cases nw with
 |true=>exact w4
 |false=>exact iH2 _
 obtain⟨k,v,e,l,q1,q2,q3⟩:=B U;exact⟨k,v,e,l,q2,q3⟩;obtain⟨k,v,e,l,q1,q2⟩:=U;rcases O q1 with a|⟨a1,a⟩
 rw[c3in a]at q2;obtain⟨k,v,e,l,p1,p2,p3⟩:=B (J.own id x ⟨k,v,e,l,M a,q2⟩);exact⟨k,v,e,l,p2,p3⟩;rw[c3out a1]at q2;exact⟨k,v,e,l,(p a).1,q2⟩;rw[k4 k];by_cases X:aM hs k=none
 have b5:¬zB k ns=true:=fun d3=>by
  rw[(u k).1,iJ2 d3,f]at X;cases X
 have b0:aM U k=some o:=by rw[(u k).2,iL2 b5];exact f
 cases hc2:aM H k with
 |none=>rw[(k2 k).1 hc2]at b0;cases b0
 |some o'=>
  obtain⟨o0,q1,q2,q3,q4,_⟩:=N hc2;rw[f]at q1;cases q1;exact⟨o',by rw[q3];rfl,fun hb=>⟨by rw[<-q4];exact hb,c3out q3⟩⟩
 cases hc2:aM hs k with
 |none=>exact absurd hc2 X
 |some o0=>
  have b6:=G k o0 hc2;rw[f]at b6;cases b6;obtain⟨o',q1,q2⟩:=J.kd k o hc2;have g:=d2 X;cases hc3:aM h2 k with
  |none=>exact absurd hc3 g
  |some o2=>
   have:=A k o2 hc3;rw[q1]at this;cases this;exact⟨o',rfl,fun hb=>⟨(q2 hb).1,by rw[c3in g,(q2 hb).2,rs X]⟩⟩
 rcases J.zn id x hz with h1|h1;exact .inl h1;obtain⟨k,v,e,l,q1,q2,q3⟩:=B h1;exact .inr ⟨k,v,e,l,q2,q3⟩
def fxo:gD->gD
 |.lst ty e g rows=>.lst (ty+4294967296) e g rows
 |o=>o
def Aw:gD->Bool
 |.lst .. =>true
 |_=>false
theorem gM1 (ty:Nat):fU (ty+4294967296)=true:=by
 unfold fU;rw[Nat.ble_eq];omega
theorem Xz {ty:Nat}:Ab (ty+4294967296)=ty:=by
 unfold Ab;rw[gM1,iT2];omega
theorem Sq {ty:Nat} (h:fU ty=false):Ab ty=ty:=by
 unfold Ab;rw[h,jG2]
theorem Ya {ty:Nat} (h:fU ty=true):Ab ty=ty-4294967296:=by
 unfold Ab;rw[h,iT2]
theorem Ln {L:Nat->aB AO} {nS ty ty' e:Nat} {g:Bool} {rows:aA (aA PV)} {pl:Pl} (a:iO C L lim nS (.lst ty e g rows) pl) (b:Ab ty'=Ab ty):iO C L lim nS (.lst ty' e g rows) pl:=by
 cases pl with
 |nil=>exact a
 |atp id ver e' len=>
  obtain⟨a1,a2,a3,a4,els,a5,a6⟩:=a;exact⟨a1,a2,a3,a4,els,by rw[b];exact a5,a6⟩
theorem yE:∀{h:aT} {K:aT->aB R} {r:R},It h K=some r->∃h1,K h1=some r/\∀k,aM h1 k=(aM h k).map fxo/\∀ty e g rows,aM h k=some (.lst ty e g rows)->fU ty=false
 |[],K,r,hk=>⟨[],hk,fun k=>⟨rfl,fun _ _ _ _ h=>by simp[aM]at h⟩⟩
 |(j,o)::t,K,r,hk=>by
  unfold It at hk
  have other:Aw o=false->It t (fun r=>K ((j,o)::r))=some r->∃h1,K h1=some r/\∀k,aM h1 k=(aM ((j,o)::t) k).map fxo/\∀ty e g rows,aM ((j,o)::t) k=some (.lst ty e g rows)->fU ty=false:=by
   intro hl hk;obtain⟨h1,q1,q2⟩:=yE hk;refine⟨_,q1,fun k=>?_⟩;by_cases e:j=k;simp only[aM,iJ2 e,jC2];refine⟨?_,fun _ _ _ _ h=>?_⟩;cases o<;>first|rfl|simp[Aw]at hl
   grind
   simp only[aM,iL2 e];exact q2 k
  cases o with
  |lst ty e g rows=>
   cases hfx:fU ty with
   |true=>simp only[hfx,iT2]at hk;exact aD hk
   |false=>
    simp only[hfx,jG2]at hk;obtain⟨h1,q1,q2⟩:=yE hk;refine⟨_,q1,fun k=>?_⟩;by_cases c:j=k;simp only[aM,iJ2 c,jC2];exact⟨rfl,fun _ _ _ _ h=>by cases h;exact hfx⟩;simp only[aM,iL2 c];exact q2 k
  |box cs=>exact other rfl hk
  |mp es=>exact other rfl hk
  |fl fs=>exact other rfl hk
  |loop N e ps a b busy fin=>exact other rfl hk
  |lz ty e dp rows=>exact aD hk
def UnR (h:aT) (k:Nat) (b c:gD):Prop:=∃a,aM h k=some a/\
 ((∃ty e g rows,b=.lst ty e g rows/\fU ty=true/\fU (ty-4294967296)=false/\c=.lst (ty-4294967296) e g rows)\/(c=b/\Aw a=false))
theorem Ax:∀{h h2:aT} {K:aT->aB R} {r:R},uR h h2 K=some r->∃h3,K h3=some r/\∀k,(aM h3 k=none↔aM h2 k=none)/\∀c,aM h3 k=some c->∃d,aM h2 k=some d/\UnR h k d c
 |h,[],K,r,hk=>⟨[],hk,fun k=>⟨Iff.rfl,fun _ h=>by simp[aM]at h⟩⟩
 |h,(j,o)::t,K,r,hk=>by
  unfold uR at hk
  rw[eK,iC2]at hk
  obtain⟨f,h0,hk⟩:=hk
  have step:∀c,UnR h j o c->uR h t (fun r=>K ((j,c)::r))=some r->∃h3,K h3=some r/\∀k,(aM h3 k=none↔aM ((j,o)::t) k=none)/\∀c,aM h3 k=some c->∃d,aM ((j,o)::t) k=some d/\UnR h k d c:=by
   intro c i hk;obtain⟨h3,q1,q2⟩:=Ax hk;refine⟨_,q1,fun k=>?_⟩;by_cases e:j=k;subst e;simp only[aM,iJ2];exact⟨by simp,fun l h4=>⟨o,rfl,by cases h4;exact i⟩⟩;simp only[aM,iL2 e];exact q2 k
  have no:Aw f=false->Aw o=false->uR h t (fun r=>K ((j,o)::r))=some r->∃h3,K h3=some r/\∀k,(aM h3 k=none↔aM ((j,o)::t) k=none)/\∀c,aM h3 k=some c->∃d,aM ((j,o)::t) k=some d/\UnR h k d c:=
   fun hl _ hk=>step o ⟨f,h0,.inr ⟨rfl,hl⟩⟩ hk
  cases f with
  |lst ty0 e0 g0 rows0=>
   cases o with
   |lst ty e g rows=>
    cases hfx:(fU ty&& !(fU (ty-4294967296)))with
    |false=>simp only[hfx,jG2]at hk;exact aD hk
    |true=>
     simp only[hfx,iT2]at hk;simp only[iD2,iX2]at hfx;exact step _ ⟨_,h0,.inl ⟨ty,e,g,rows,rfl,hfx.1,hfx.2,rfl⟩⟩ hk
   |_=>exact aD hk
  |box cs=>cases o with
   |lst ty e g rows=>exact aD hk
   |lz ty e dp rows=>exact aD hk
   |_=>exact no rfl rfl hk
  |mp es=>cases o with
   |lst ty e g rows=>exact aD hk
   |lz ty e dp rows=>exact aD hk
   |_=>exact no rfl rfl hk
  |fl fs=>cases o with
   |lst ty e g rows=>exact aD hk
   |lz ty e dp rows=>exact aD hk
   |_=>exact no rfl rfl hk
  |loop N e ps a b busy fin=>cases o with
   |lst ty e g rows=>exact aD hk
   |lz ty e dp rows=>exact aD hk
   |_=>exact no rfl rfl hk
  |lz ty0 e0 dp0 rows0=>cases o with
   |lst ty e g rows=>exact aD hk
   |lz ty e dp rows=>exact aD hk
   |_=>exact no rfl rfl hk
theorem Sr {fx:Bool} {P:AV->Hp->Prop} {run:aT->Nat->(PV->aT->Nat->aB (PV×aT×Nat))->aB (PV×aT×Nat)} {xs:aA PV} {ys:aA AV} {e:dZ} {t:aA AV} {kill:aA Nat} {nw:Bool} {K:PV->dZ->aT->Nat->aB R} {r:R}
  (q:cM C n h lim s) (he:cX C e t) (L:LR (RV C) xs ys)
  (p:∀(hs:aT) (C0:Cx) (m:Nat) (K':PV->aT->Nat->aB (PV×aT×Nat)) (r':PV×aT×Nat),cM C0 m hs lim s->LR (RV C0) xs ys->run hs m K'=some r'->
   ∃v h' n' C' y s',K' v h' n'=some r'/\RV C' v y/\cM C' n' h' lim s'/\m<=n'/\Fr C0 hs s C' h' s'/\P y s')
  (hk:fW1 fx run nw xs e h n kill K=some r):
  ∃v e' h' n' C' y s',K v e' h' n'=some r/\RV C' v y/\(∀i w,dR e' i=some w->∃z,t[i]? =some z/\RV C' w z/\i∉kill)/\cM C' n' h' lim s'/\n<=n'/\Fr C h s C' h' s'/\P y s':=by
 cases fx with
 |false=>exact Cq q he L p hk
 |true=>
  have hk:It h (fun h1=>inK run nw xs e h1 n kill fun v e h2 n=>uR h h2 fun h3=>K v e h3 n)=some r:=hk;obtain⟨h1,hk,j⟩:=yE hk;have c:∀{k},aM h1 k≠none->aM h k≠none:=fun{k} hk x=>hk (by rw[(j k).1,x];rfl)
  have F:cM C n h1 lim s:=by
   refine⟨⟨fun k po hp=>?_,fun k k' i v1 D G v2 e2 H a1 a2 a3 a4=>q.hr.inj k k' i v1 D G v2 e2 H (c a1) (c a2) a3 a4,fun id o A=>?_⟩,q.dom,q.wf,q.lim⟩;rw[(j k).1]at hp;cases hh:aM h k with
   |none=>rw[hh]at hp;cases hp
   |some o=>
    rw[hh]at hp;cases hp;obtain⟨pl,p1,p2⟩:=q.hr.ob k o hh;refine⟨pl,p1,?_⟩;cases o with
    |lst ty e g rows=>exact Ln p2 (Xz.trans (Sq ((j k).2 _ _ _ _ hh)).symm)
    |_=>exact p2
   obtain⟨z1,z2,z3,z4⟩:=q.hr.zr id o A;exact⟨z1,z2,fun k v e l a b=>z3 k v e l (c a) b,z4⟩
  obtain⟨v,e',h',n',C',y,s',q1,q2,q3,q4,q5,q6,q7⟩:=Cq F he L p hk;obtain⟨h3,r1,r2⟩:=Ax q1;have d:∀{k},aM h3 k≠none->aM h' k≠none:=fun{k} hk x=>hk ((r2 k).1.2 x);refine⟨v,e',h3,n',C',y,s',r1,q2,q3,⟨⟨fun k B E=>?_,fun k k' i v1 D G v2 e2 H a1 a2 a3 a4=>q4.hr.inj k k' i v1 D G v2 e2 H (d a1) (d a2) a3 a4,fun id o A=>?_⟩,q4.dom,q4.wf,q4.lim⟩,q5,⟨q6.sk,q6.n,fun id f x=>q6.keep id f (fun⟨k,v,e,l,b1,b2⟩=>x ⟨k,v,e,l,c b1,b2⟩),fun id f ⟨k,v,e,l,b1,b2⟩=>?_,fun k o u=>?_,q6.zl,fun id f A=>?_⟩,q7⟩;obtain⟨M,b1,S,b2,b3⟩:=(r2 k).2 B E;obtain⟨pl,p1,p2⟩:=q4.hr.ob k M b1;refine⟨pl,p1,?_⟩;rcases b3 with⟨ty,e,g,rows,rfl,c1,c2,rfl⟩|⟨rfl,_⟩
  exact Ln p2 ((Sq c2).trans (Ya c1).symm);exact p2;obtain⟨z1,z2,z3,z4⟩:=q4.hr.zr id o A;exact⟨z1,z2,fun k v e l a b=>z3 k v e l (d a) b,z4⟩;obtain⟨k,v,e,l,N,O⟩:=q6.own id f ⟨k,v,e,l,d b1,b2⟩;exact⟨k,v,e,l,c N,O⟩;obtain⟨M,J,U⟩:=q6.kd k (fxo o) (by rw[(j k).1,u];rfl);cases hc:aM h3 k with
  |none=>rw[(r2 k).1.1 hc]at J;cases J
  |some B=>
   refine⟨B,rfl,fun hb=>?_⟩;obtain⟨T,b1,S,b2,b3⟩:=(r2 k).2 B hc;rw[J]at b1;cases b1;rw[u]at b2;cases b2;rcases b3 with⟨ty,e,g,rows,rfl,c1,c2,rfl⟩|⟨rfl,hl⟩
   rw[eO,c2]at hb;cases hb;obtain⟨V,W⟩:=U hb;refine⟨?_,W⟩;cases o with
   |lst ty e g rows=>simp[Aw]at hl
   |_=>exact V
  rcases q6.zn id f A with h1|⟨k,v,e,l,b1,b2⟩
  exact .inl h1;exact .inr ⟨k,v,e,l,c b1,b2⟩
end
end Go.P
