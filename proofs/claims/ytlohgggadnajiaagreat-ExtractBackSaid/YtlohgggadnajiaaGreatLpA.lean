import Derived.Test.YtlohgggadnajiaaGreatLaB
/- A text of the proof. -/
set_option linter.all false
namespace Go.P
open Go.Sim (hZ CK Ex RV maxRoom)
inductive PV where
 |v (x:Value)
 |is (esz:Nat) (rows:List (List PV))
 |ip (cells:List PV)
 |im (es:List (PV×PV))
 |ref (k o:Nat)
 |own (k:Nat)
 |el (k i o:Nat)
 |map (k:Nat)
 |fn (f:FuncId) (first cap:List PV)
 |agg (cells:List PV)
 |tup (vs:List PV)
 |undef
 |yld (k:Nat)
 |zs (d e:Nat) (rows:List (List PV))
 |zm (es:List (PV×PV))
 deriving Inhabited
inductive TD where
 |nd (ty e:Nat) (kids:List (Nat×TD))
 deriving Inhabited
def Hs:Nat->TD->Bool
 |0,.nd _ _ ks=>ks.isEmpty
 |f+1,.nd _ _ ks=>ks.all fun q=>Hs f q.2
def Kx:Nat->TD->TD->Bool
 |0,_,_=>false
 |n+1,.nd a b ks,.nd c d ls=>Nat.beq a c&&(Nat.beq b d&&(Nat.beq ks.length ls.length&&(ks.zip ls).all fun p=>Nat.beq p.1.1 p.2.1&&Kx n p.1.2 p.2.2))
def TD.ks:TD->aA (Nat×TD)
 |.nd _ _ ks=>ks
inductive PX where
 |t (i:Nat)
 |c (x:PV)
 deriving Inhabited
inductive kM where
 |nil
 |op (d:Nat) (k:hZ) (xs:List PX) (kill:List Nat) (dK:kM)
 |sto (k:hZ) (xs:List PX) (kill:List Nat) (dK:kM)
 |ifx (d c:Nat) (w:Bool) (body:kM) (x:PX) (kill:List Nat) (dK:kM)
 |ifn (d c:Nat) (w:Bool) (body:kM) (x:PX) (kill:List Nat) (dK:kM)
 |mkfl (d:Nat) (ty:TypeId) (zero:List Value) (xs:List PX) (kill:List Nat) (dK:kM)
 |lax (d:Nat) (es:List (Option Nat)) (dK:kM)
 |own (d:Nat) (ty:TypeId) (e:Nat) (g:Bool) (dK:kM)
 |ownc (d j:Nat) (ty:TypeId) (e:Nat) (g:Bool) (dK:kM)
 |laxc (d j e:Nat) (dK:kM)
 |opn (d:Nat) (m:Option Nat) (x:PX) (kill js:List Nat) (dK:kM)
 |bst (d:Nat) (t:TD) (len:Nat) (zero:List Value) (parts:List Nat) (xs:List PX) (kill:List Nat) (dK:kM)
 |gc (keep:List Nat) (dK:kM)
 |clr (d es:Nat) (zero:List Value) (x y:PX) (kill:List Nat) (dK:kM)
 |tre (d:Nat) (j:Option Nat) (t:TD) (dK:kM)
 deriving Inhabited
inductive PC where
 |skip
 |reg (ops:kM)
 |regD (dr:Nat) (ops:kM) (before:List Nat)
 |dead (c:Go.Sim.IC)
 |regX (dr:Nat) (ops:kM) (before:List Nat) (ex:List (Nat×Nat×Nat×Nat))
 |seq (a b:PC)
 |cond (c:PX) (a b:PC)
 |condJ (keep:List Nat) (c:PX) (a b:PC)
 |condL (c:PX) (a b:PC)
 |block (id:Nat) (c:PC)
 |loop (keep kx:List Nat) (c:PC)
 |loopU (m:Nat) (keep:List Nat) (c:PC)
 |rangeF (N:Nat) (keep:List Nat) (f:PX) (params:List Nat) (asn body:PC)
 |exit (id:Nat)
 |ret
 deriving Inhabited
abbrev gG:=aA (Nat×PV)
inductive dX where
 |box (cells:List PV)
 |lst (ty:TypeId) (esz:Nat) (g:Bool) (rows:List (List PV))
 |mp (es:List (PV×PV))
 |fl (fs:List PV)
 |lz (ty:TypeId) (esz dp:Nat) (rows:List (List PV))
 |loop (N:Nat) (e:gG) (params:List Nat) (asn body:PC) (busy:Bool) (fin:Option Ex)
 |tr (t:TD) (rows:List (List PV)) (hs:List (Nat×Nat×PV))
abbrev aS:=aA (Nat×dX)
def iQ (ty:Nat):Bool:=Nat.ble 4294967296 ty
def Hj (ty:Nat):Nat:=bif iQ ty then ty-4294967296 else ty
def dC1:∃f:{R:Type}->Bool->aB R->aB R->aB R,∀{R:Type} b (x y:aB R),f b x y=if b then x else y:=⟨fun b x y=>if b then x else y,fun _ _ _=>rfl⟩
noncomputable def Om {R:Type} (b:Bool) (x y:aB R):aB R:=Classical.choose dC1 b x y
def rZ {R:Type} (b:Bool) (x y:aB R):Om b x y=if b then x else y:=eK3 dC1 b x y
def On:∃f:{A R:Type}->aB A->(A->aB R)->aB R,∀{A R:Type} (x:aB A) (k:A->aB R),f x k=x.bind k:=⟨fun x k=>x.bind k,fun _ _=>rfl⟩
noncomputable def cM {A R:Type} (x:aB A) (k:A->aB R):aB R:=Classical.choose On x k
def cE {A R:Type} (x:aB A) (k:A->aB R):cM x k=x.bind k:=eK3 On x k
noncomputable section
variable {R:Type}
def Sw (x:Value) (K:Value->aB R):aB R:=
 match x with
 |.int k n=>K (.int k n)
 |.bool b=>K (.bool b)
 |.string s=>K (.string s)
 |x=>K x
def fPV (x:PV) (K:PV->aB R):aB R:=
 match x with
 |.v x=>Sw x fun x=>K (.v x)
 |.is e rows=>K (.is e rows)
 |.ip cs=>K (.ip cs)
 |.im es=>K (.im es)
 |.ref k o=>K (.ref k o)
 |.own k=>K (.own k)
 |.el k i o=>K (.el k i o)
 |.map k=>K (.map k)
 |.fn f a b=>K (.fn f a b)
 |.agg cs=>K (.agg cs)
 |.tup cs=>K (.tup cs)
 |.undef=>K .undef
 |.yld k=>K (.yld k)
 |.zs d e rows=>K (.zs d e rows)
 |.zm es=>K (.zm es)
def wC:aA PV->(aA PV->aB R)->aB R
 |[],K=>K []
 |x::xs,K=>fPV x fun x=>wC xs fun xs=>K (x::xs)
def fV (x:PV) (K:PV->aB R):aB R:=
 match x with
 |.v x=>Sw x fun x=>K (.v x)
 |.agg cs=>wC cs fun cs=>K (.agg cs)
 |.tup cs=>fT cs fun cs=>K (.tup cs)
 |.ip cs=>wC cs fun cs=>K (.ip cs)
 |.is e rows=>K (.is e rows)
 |.im es=>K (.im es)
 |.ref k o=>K (.ref k o)
 |.own k=>K (.own k)
 |.el k i o=>K (.el k i o)
 |.map k=>K (.map k)
 |.fn f a b=>wC a fun a=>wC b fun b=>K (.fn f a b)
 |.undef=>K .undef
 |.yld k=>K (.yld k)
 |.zs d e rows=>K (.zs d e rows)
 |.zm es=>K (.zm es)
 where
 fT:aA PV->(aA PV->aB R)->aB R
 |[],K=>K []
 |x::xs,K=>(match x with
   |.agg cs=>wC cs fun cs=>fT xs fun xs=>K (.agg cs::xs)
   |x=>fPV x fun x=>fT xs fun xs=>K (x::xs))
def vG:gG->Nat->(PV->aB R)->aB R
 |[],_,_=>none
 |(j,v)::r,i,K=>bif Nat.beq j i then K v else vG r i K
def wD:Nat->aA Nat->Bool
 |_,[]=>false
 |i,j::js=>bif Nat.beq i j then true else wD i js
def kT:gG->aA Nat->(gG->aB R)->aB R
 |[],_,K=>K []
 |(j,v)::r,is,K=>bif wD j is then kT r is K else kT r is fun r=>K ((j,v)::r)
def qV (e:gG):aA PX->(aA PV->aB R)->aB R
 |[],K=>K []
 |.t i::xs,K=>vG e i fun v=>qV e xs fun vs=>K (v::vs)
 |.c x::xs,K=>qV e xs fun vs=>K (x::vs)
def tT:Nat->aA PV->(aA PV->aB R)->aB R
 |0,_,K=>K []
 |_+1,[],_=>none
 |n+1,a::as,K=>tT n as fun l=>K (a::l)
def kR:Nat->aA PV->(aA PV->aB R)->aB R
 |0,l,K=>K l
 |_+1,[],_=>none
 |n+1,_::as,K=>kR n as K
def wE:aA PV->Nat->aA PV->(aA PV->aB R)->aB R
 |l,0,[],K=>K l
 |[],_,_,_=>none
 |_::as,0,c::cs,K=>wE as 0 cs fun l=>K (c::l)
 |a::as,n+1,cs,K=>wE as n cs fun l=>K (a::l)
def hK:aS->Nat->(dX->aB R)->aB R
 |[],_,_=>none
 |(j,v)::r,i,K=>bif Nat.beq j i then K v else hK r i K
def iT:aS->Nat->dX->(aS->aB R)->aB R
 |[],_,_,_=>none
 |(j,v)::r,i,o,K=>bif Nat.beq j i then K ((j,o)::r)else iT r i o fun r=>K ((j,v)::r)
def nG (x:PV) (K:aA PV->aB R):aB R:=
 match x with
 |.agg cs=>K cs
 |.tup _=>none
 |.undef=>none
 |x=>K [x]
def kEq (a b:IntKind):Bool:=
 match a,b with
 |.i8,.i8|.i16,.i16|.i32,.i32|.i64,.i64|.u8,.u8|.u16,.u16|.u32,.u32|.u64,.u64=>true
 |_,_=>false
def vG1 (op:BinOp) (x y:PV) (K:PV->aB R):aB R:=
 match x,y with
 |.v x,.v y=>
  match x,y with
  |.int k a,.int k' b=>
   match op with
   |.shl=>cM (if b<0 then none else some (k.wrap (a*2^min b.toNat k.bits))) fun r=>K (.v (.int k r))
   |.shr=>cM (if b<0 then none else some (a.fdiv (2^min b.toNat k.bits))) fun r=>K (.v (.int k r))
   |_=>bif kEq k k' then match op with
    |.add=>K (.v (.int k (k.wrap (a+b))))
    |.sub=>K (.v (.int k (k.wrap (a-b))))
    |.mul=>K (.v (.int k (k.wrap (a*b))))
    |.quo=>cM (if b=0 then none else some (k.wrap (a.tdiv b))) fun r=>K (.v (.int k r))
    |.rem=>cM (if b=0 then none else some (a.tmod b)) fun r=>K (.v (.int k r))
    |.and=>K (.v (.int k (k.wrap (BitVec.ofInt k.bits a&&&BitVec.ofInt k.bits b).toNat)))
    |.or=>K (.v (.int k (k.wrap (BitVec.ofInt k.bits a|||BitVec.ofInt k.bits b).toNat)))
    |.xor=>K (.v (.int k (k.wrap (BitVec.ofInt k.bits a^^^BitVec.ofInt k.bits b).toNat)))
    |.andNot=>K (.v (.int k (k.wrap (BitVec.ofInt k.bits a&&& ~~~ BitVec.ofInt k.bits b).toNat)))
    |.eql=>K (.v (.bool (a==b)))
    |.neq=>K (.v (.bool (a !=b)))
    |.lss=>K (.v (.bool (decide (a<b))))
    |.leq=>K (.v (.bool (decide (a<=b))))
    |.gtr=>K (.v (.bool (decide (a>b))))
    |.geq=>K (.v (.bool (decide (a>=b))))
    |_=>none
   else none
  |.string a,.string b=>
   match op with
   |.add=>cM (if a.size+b.size<=2^62 then some (a++b)else none) fun r=>K (.v (.string r))
   |.eql=>K (.v (.bool (a.toList==b.toList)))
   |.neq=>K (.v (.bool !(a.toList==b.toList)))
   |.lss=>K (.v (.bool (Op.bytesLess a.toList b.toList)))
   |.leq=>K (.v (.bool (Op.bytesLess a.toList b.toList||a.toList==b.toList)))
   |.gtr=>K (.v (.bool !(Op.bytesLess a.toList b.toList||a.toList==b.toList)))
   |.geq=>K (.v (.bool !(Op.bytesLess a.toList b.toList)))
   |_=>none
  |_,_=>none
 |_,_=>none
def lB1:aA CK->aA PV->aA PV->(Bool->aB R)->aB R
 |[],[],[],K=>K true
 |k::ks,a::as,b::bs,K=>lB1 ks as bs fun r=>match k,a,b with
  |.i,.v (.int j x),.v (.int j' y)=>bif kEq j j' then K ((x==y)&&r)else none
  |.b,.v (.bool x),.v (.bool y)=>K ((x==y)&&r)
  |.s,.v (.string x),.v (.string y)=>K ((x==y)&&r)
  |_,_,_=>none
 |_,_,_,_=>none
def wF (rows:aA (aA PV)) (i:Int):aB (aA PV):=if 0<=i then rows[i.toNat]? else none
def sW (n:Nat) (i:Int):aB Nat:=if 0<=i/\i<n then some i.toNat else none
def qW (rows:aA (aA PV)) (l h:Int):aB (aA (aA PV)):=
 if 0<=l/\l<=h/\h<=rows.length then some ((rows.drop l.toNat).take (h.toNat-l.toNat))else none
def tU (s:ByteArray) (i:Int):aB Int:=if 0<=i then(s.data.toList[i.toNat]?).map fun b=>(b.toNat:Int)else none
def pE (rows:aA (aA PV)) (i o:Nat) (cs:aA PV):aB (aA (aA PV)):=
 match rows[i]? with
 |some row=>if o+cs.length<=row.length then some (rows.set i (Sim.setL row o cs))else none
 |none=>none
def lQ (rows:aA (aA PV)) (i o:Nat):aB PV:=(rows[i]?).bind fun row=>row[o]?
def mQ (rows:aA (aA PV)) (i o n:Nat):aB (aA PV):=(rows[i]?).bind fun row=>if o+n<=row.length then some ((row.drop o).take n)else none
def xO (cs:aA PV) (i:Int) (len esz:Nat):aB PV:=if 0<=i/\i<len then cs[i.toNat*esz]? else none
def tV (cs:aA PV) (i:Int) (len esz:Nat):aB (aA PV):=if 0<=i/\i<len/\(i.toNat+1)*esz<=cs.length then some ((cs.drop (i.toNat*esz)).take esz)else none
def byteRows (s:ByteArray):aA (aA PV):=s.data.toList.map fun b=>[.v (.int .u8 b.toNat)]
def appRows (g:Bool) (rows new:aA (aA PV)):aB (aA (aA PV)):=
 if rows.length+new.length<=maxRoom/\(g=true->new.length<=1)then some (rows++new)else none
def uR (rows:aA (aA PV)) (h:Int):aB (aA (aA PV)):=if 0<=h/\h<=rows.length then some (rows.take h.toNat)else none
def pF (l c:Int) (zero:aA PV):aB (aA (aA PV)):=if 0<=l/\l<=c/\c<=maxRoom then some (List.replicate l.toNat zero)else none
def xP:CK->PV->PV->aB Bool
 |.i,.v (.int k a),.v (.int k' b)=>if k=k' then some (a==b)else none
 |.b,.v (.bool a),.v (.bool b)=>some (a==b)
 |.s,.v (.string a),.v (.string b)=>some (a==b)
 |_,_,_=>none
def pG:aA CK->aA PV->aA PV->aB Bool
 |[],[],[]=>some true
 |k::ks,a::as,b::bs=>match xP k a b with
  |some true=>pG ks as bs
  |some false=>some false
  |none=>none
 |_,_,_=>none
def zW (agg:Bool) (ks:aA CK) (a b:PV):aB Bool:=
 if agg then match a,b with
  |.agg as,.agg bs=>if as.length=ks.length/\bs.length=ks.length then pG ks as bs else none
  |_,_=>none
 else pG ks [a] [b]
def xQ (agg:Bool) (ks:aA CK) (k:PV):aA (PV×PV)->Nat->aB (aB (Nat×PV))
 |[],_=>some none
 |(k',x)::r,i=>match zW agg ks k k' with
  |some true=>some (some (i,x))
  |some false=>xQ agg ks k r (i+1)
  |none=>none
def zX (agg:Bool) (ks:aA CK):PV->Bool
 |.agg as=>agg&&as.length==ks.length
 |.v _=> !agg
 |_=>false
def wG (agg:Bool) (ks:aA CK) (zero k:PV) (es:aA (PV×PV)):aB PV:=
 if zX agg ks k then(xQ agg ks k es 0).map fun r=>match r with|some (_,x)=>x|none=>zero else none
def xR (agg:Bool) (ks:aA CK) (zero k:PV) (es:aA (PV×PV)):aB (PV×Bool):=
 if zX agg ks k then(xQ agg ks k es 0).map fun r=>match r with|some (_,x)=>(x,true)|none=>(zero,false)else none
def Ff (agg:Bool) (ks:aA CK) (k x:PV) (es:aA (PV×PV)):aB (aA (PV×PV)):=
 if zX agg ks k then(xQ agg ks k es 0).map fun r=>match r with|some (i,_)=>es.set i (k,x)|none=>es++[(k,x)]else none
def eE:Nat->PV->Bool
 |0,_=>false
 |d+1,x=>match x with
  |.v _|.is _ _|.ip _|.im _=>true
  |.fn _ a b=>a.all (eE d)&&b.all (eE d)
  |.agg cs=>cs.all (eE d)
  |.tup cs=>cs.all (eE d)
  |_=>false
def iW:PV->Bool
 |.v _|.is _ _|.ip _=>true
 |_=>false
def Sx:PV->Bool
 |.agg cs=>cs.all iW
 |x=>iW x
def zY:Nat->PV->Bool
 |0,_=>false
 |d+1,x=>match x with
  |.v _=>true
  |.agg cs=>cs.all (zY d)
  |.tup cs=>cs.all (zY d)
  |_=>false
def vH (f:PV->(PV->aB R)->aB R):aA PV->(aA PV->aB R)->aB R
 |[],K=>K []
 |x::xs,K=>f x fun x=>vH f xs fun xs=>K (x::xs)
def Ky (h:aS):Nat->PV->(PV->aB R)->aB R
 |0,_,_=>none
 |d+1,x,K=>match x with
  |.own k=>hK h k fun ob=>match ob with
   |.lst _ e _ rows=>K (.is e rows)
   |.lz _ e dp rows=>bif Nat.ble dp 4 then K (.is e rows)else none
   |.tr t rows hs=>match hs with
    |[]=>match t with|.nd ty e ks=>bif Hs 4 (.nd ty e ks)then K (.is e rows)else none
    |_=>none
   |_=>none
  |.zs dp e rows=>bif Nat.ble dp 5 then K (.is e rows)else none
  |.map k=>hK h k fun ob=>match ob with
   |.mp es=>K (.im es)
   |_=>none
  |.ref k o=>hK h k fun ob=>match ob with
   |.box cs=>kR o cs fun cs=>vH (Ky h d) cs fun cs=>K (.ip cs)
   |_=>none
  |.fn f a b=>vH (Ky h d) a fun a=>vH (Ky h d) b fun b=>K (.fn f a b)
  |.agg cs=>vH (Ky h d) cs fun cs=>K (.agg cs)
  |.v x=>K (.v x)
  |.is e rows=>K (.is e rows)
  |.ip cs=>K (.ip cs)
  |.im es=>K (.im es)
  |_=>none
def gH (k:Nat):Nat->PV->(PV->aB R)->aB R
 |0,_,K=>K .undef
 |d+1,x,K=>match x with
  |.own j=>bif Nat.beq j k then K .undef else K (.own j)
  |.el j i o=>bif Nat.beq j k then K .undef else K (.el j i o)
  |.ref j o=>bif Nat.beq j k then K .undef else K (.ref j o)
  |.map j=>bif Nat.beq j k then K .undef else K (.map j)
  |.yld j=>bif Nat.beq j k then K .undef else K (.yld j)
  |.fn f a b=>kills d a fun a=>kills d b fun b=>K (.fn f a b)
  |.agg cs=>kills d cs fun cs=>K (.agg cs)
  |.tup cs=>kills d cs fun cs=>K (.tup cs)
  |x=>K x
 where
 kills (d:Nat):aA PV->(aA PV->aB R)->aB R
 |[],K=>K []
 |x::xs,K=>gH k d x fun x=>kills d xs fun xs=>K (x::xs)
def pH (k:Nat):gG->(gG->aB R)->aB R
 |[],K=>K []
 |(j,v)::r,K=>gH k 3 v fun v=>pH k r fun r=>K ((j,v)::r)
def Fg (k:Nat):aA (Nat×Nat×PV)->(aA (Nat×Nat×PV)->aB R)->aB R
 |[],K=>K []
 |(j,i,x)::r,K=>gH k 3 x fun x=>Fg k r fun r=>K ((j,i,x)::r)
def lU (k:Nat):aS->(aS->aB R)->aB R
 |[],K=>K []
 |(j,o)::r,K=>match o with
  |.box cs=>gH.kills k 2 cs fun cs=>lU k r fun r=>K ((j,.box cs)::r)
  |.lst ty e g rows=>lU k r fun r=>K ((j,.lst ty e g rows)::r)
  |.mp es=>lU k r fun r=>K ((j,.mp es)::r)
  |.lz ty e dp rows=>lU k r fun r=>K ((j,.lz ty e dp rows)::r)
  |.fl fs=>gH.kills k 2 fs fun fs=>lU k r fun r=>K ((j,.fl fs)::r)
  |.loop N e ps a b busy fin=>pH k e fun e=>lU k r fun r=>K ((j,.loop N e ps a b busy fin)::r)
  |.tr t rows hs=>Fg k hs fun hs=>lU k r fun r=>K ((j,.tr t rows hs)::r)
def dD1 (h:aS) (e:Nat) (x:PV) (K:aA (aA PV)->aB R):aB R:=
 match x with
 |.is e' rows=>bif Nat.beq e' e then K rows else none
 |.own k=>hK h k fun ob=>match ob with
  |.lst _ e' _ rows=>bif Nat.beq e' e then K rows else none
  |_=>none
 |.v (.slice none 0 0)=>K []
 |_=>none
def Cm (lo hi:Bool) (len:Nat) (a:aA PV) (K:Int->Int->aB R):aB R:=
 match lo,hi,a with
 |false,false,[]=>K 0 len
 |true,false,[.v (.int _ l)]=>K l len
 |false,true,[.v (.int _ h)]=>K 0 h
 |true,true,[.v (.int _ l),.v (.int _ h)]=>K l h
 |_,_,_=>none
def Oo:aA PV->aA (Nat×Nat)->aA PV->(aA PV->aB R)->aB R
 |cells,[],[],K=>K cells
 |cells,(off,n)::ps,x::xs,K=>nG x fun cs=>bif Nat.beq cs.length n then wE cells off cs fun cells=>Oo cells ps xs K else none
 |_,_,_,_=>none
def xS (e:Nat):aA PV->(aA (aA PV)->aB R)->aB R
 |[],K=>K []
 |x::xs,K=>nG x fun cs=>bif Nat.beq cs.length e&&cs.all iW then xS e xs fun r=>K (cs::r)else none
def dE1:PV->aB (Nat×PV)
 |.zs d e rows=>some (d,.is e rows)
 |x=>bif iW x then some (0,x)else none
def Fh:aA PV->aB (Nat×aA PV)
 |[]=>some (0,[])
 |x::xs=>match dE1 x,Fh xs with
  |some (d,y),some (d',ys)=>some (bif Nat.blt d d' then d' else d,y::ys)
  |_,_=>none
def fD (d:Nat) (K:Nat->aB R):aB R:=match d with
 |0=>K 0
 |1=>K 1
 |2=>K 2
 |3=>K 3
 |4=>K 4
 |d=>K d
def Fi (e:Nat):aA PV->(Nat->aA (aA PV)->aB R)->aB R
 |[],K=>K 0 []
 |x::xs,K=>nG x fun cs=>match Fh cs with
  |some (d,ys)=>bif Nat.beq ys.length e then Fi e xs fun a r=>fD (bif Nat.blt d a then a else d) fun m=>K m (ys::r)else none
  |none=>none
def dF1:PV->Bool
 |.agg cs=>cs.all iW
 |x=>iW x
def Kz:Nat->aA Nat->Bool
 |_,[]=>true
 |i,j::js=>bif Nat.beq i j then Kz (i+1) js else false
def mnK (mx:Bool) (k:IntKind):Int->aA PV->(Int->aB R)->aB R
 |a,[],K=>K a
 |a,.v (.int k' b)::r,K=>bif kEq k k' then mnK mx k (bif mx then(if b>a then b else a)else(if b<a then b else a)) r K else none
 |_,_,_=>none
def lC1 (i:Int) (K:Nat->aB R):aB R:=
 match i with
 |.ofNat i=>K i
 |_=>none
def Oq (i:Int):Nat->(Nat->aB R)->aB R
 |0,_=>none
 |m+1,K=>Om (i==(m:Int)) (K m) (Oq i m K)
def iH:aA (Nat×TD)->Nat->aB TD
 |[],_=>none
 |(j,t)::r,o=>bif Nat.beq j o then some t else iH r o
def xT (ks:aA (Nat×TD)):Nat->aA PV->(aA PV->aB R)->aB R
 |_,[],K=>K []
 |o,x::xs,K=>match iH ks o with
  |some _=>xT ks (o+1) xs fun xs=>K (.undef::xs)
  |none=>xT ks (o+1) xs fun xs=>K (x::xs)
def Fj:aA (Nat×Nat×PV)->Nat->aB (Nat×PV)
 |[],_=>none
 |(j,i,x)::r,o=>bif Nat.beq j o then some (i,x)else Fj r o
def Yu:aA (Nat×Nat×PV)->Nat->aA (Nat×Nat×PV)
 |[],_=>[]
 |(j,i,x)::r,o=>bif Nat.beq j o then r else(j,i,x)::Yu r o
def Vh (i j:Nat):aB Unit:=if i=j then some ()else none
def Vi (hs:aA (Nat×Nat×PV)) (o i:Nat) (K:aA (Nat×Nat×PV)->aB R):aB R:=
 match Fj hs o with
 |none=>K hs
 |some (i',_)=>cM (Vh i i') fun _=>K (Yu hs o)
def xU (ks:aA (Nat×TD)) (i:Nat):Nat->aA PV->aA (Nat×Nat×PV)->(aA PV->aA (Nat×Nat×PV)->aB R)->aB R
 |_,[],hs,K=>K [] hs
 |o,y::ys,hs,K=>match iH ks o with
  |none=>bif iW y then xU ks i (o+1) ys hs fun l hs=>K (y::l) hs else none
  |some (.nd _ e _)=>match y with
   |.own kc=>Vi hs o i fun hs=>match Fj hs o with
    |none=>xU ks i (o+1) ys ((o,i,.own kc)::hs) fun l hs=>K (.is e []::l) hs
    |some _=>none
   |.v (.slice none 0 0)=>Vi hs o i fun hs=>match Fj hs o with
    |none=>xU ks i (o+1) ys hs fun l hs=>K (.is e []::l) hs
    |some _=>none
   |_=>none
def Cc:TD->aA (aA PV)->dX
 |.nd ty e [],rows=>.lst ty e true rows
 |t,rows=>.tr t rows []
def Ot (ks:aA (Nat×TD)) (i o:Nat) (cs0:aA PV):aA Nat->aA PV->aA (Nat×Nat×PV)->aS->Nat->(aA PV->aA (Nat×Nat×PV)->aS->Nat->aB R)->aB R
 |[],cs,hs,h,n,K=>K cs hs h n
 |j::js,cs,hs,h,n,K=>match iH ks j with
  |some t=>bif Nat.ble o j then match Fj hs j with
   |some (i',x)=>cM (Vh i i') fun _=>wE cs (j-o) [x] fun cs=>Ot ks i o cs0 js cs hs h n K
   |none=>kR (j-o) cs0 fun l=>match l with
    |.is _ rows::_=>wE cs (j-o) [.own n] fun cs=>Ot ks i o cs0 js cs ((j,i,.own n)::hs) ((n,Cc t rows)::h) (n+1) K
    |_=>none
   else none
  |none=>none
def vH1 (t:TD) (ob:dX) (K:Nat->aA (aA PV)->aB R):aB R:=
 match ob with
 |.lst ty e _ rows=>bif iQ ty then none else bif Kx 2 (.nd ty e []) t then K e rows else none
 |.tr t' rows []=>bif Kx 8 t' t then(match t with|.nd _ e _=>K e rows)else none
 |_=>none
def wH:aA (Nat×Nat×PV)->Nat->aB (Nat×Nat)
 |[],_=>none
 |(j,i,.own k)::r,kc=>bif Nat.beq k kc then some (j,i)else wH r kc
 |_::r,kc=>wH r kc
def vO:aA (Nat×Nat×PV)->Nat->aA (Nat×Nat×PV)
 |[],_=>[]
 |(j,i,.own k)::r,kc=>bif Nat.beq k kc then r else(j,i,.own k)::vO r kc
 |x::r,kc=>x::vO r kc
def lD1 (a:Nat):aS->aB Nat
 |[]=>none
 |(kp,o)::r=>match o with
  |.tr _ _ hs=>match wH hs a with
   |some _=>some kp
   |none=>lD1 a r
  |_=>lD1 a r
def Ou (k:Nat):Nat->PV->Bool
 |0,_=>true
 |d+1,x=>match x with
  |.ref j _|.own j|.el j _ _|.map j|.yld j=>Nat.beq j k
  |.fn _ a b=>a.any (Ou k d)||b.any (Ou k d)
  |.agg cs=>cs.any (Ou k d)
  |.tup cs=>cs.any (Ou k d)
  |_=>false
def vI1 (k:Nat):dX->Bool
 |.box cs=>cs.any (Ou k 5)
 |.fl cs=>cs.any (Ou k 5)
 |.loop _ e _ _ _ _ _=>e.any fun q=>Ou k 5 q.2
 |_=>false
def sO1 (k:Nat) (e:gG) (h:aS):Bool:=(e.any fun q=>Ou k 5 q.2)||h.any fun q=>vI1 k q.2
def gB (k:hZ) (xs:aA PV) (h:aS) (n:Nat) (K:PV->aS->Nat->aB R):aB R:=
 match k,xs with
 |.mov,[x]=>K x h n
 |.nilc,[x]=>match x with
  |.ref .. |.ip .. |.el .. |.fn .. |.yld .. =>K x h n
  |_=>none
 |.box _ size,[x]=>nG x fun cs=>bif Nat.beq cs.length size then(bif Nat.beq size 0 then none else K (.ref n 0) ((n,.box cs)::h) (n+1))else none
 |.alloc _ zero,[]=>wC (zero.map .v) fun cs=>K (.ref n 0) ((n,.box cs)::h) (n+1)
 |.build zero parts,xs=>wC (zero.map .v) fun cs=>Oo cs parts xs fun cs=>K (.agg cs) h n
 |.buildSl ty e len zero parts,xs=>bif Kz 0 parts&&(Nat.beq zero.length e&& !(iQ ty))then(bif Nat.beq parts.length len then bif xs.all dF1 then xS e xs fun rows=>bif Nat.beq rows.length len then K (.own n) ((n,.lst ty e false rows)::h) (n+1)else none else Fi e xs fun dp rows=>bif Nat.beq rows.length len then K (.own n) ((n,.lz ty e dp rows)::h) (n+1)else none else none)else none
 |.loadS,[p]=>match p with
  |.ref k o=>hK h k fun ob=>match ob with
   |.box cs=>kR o cs fun cs=>match cs with
    |c::_=>K c h n
    |[]=>none
   |_=>none
  |.ip cs=>match cs with
   |c::_=>K c h n
   |[]=>none
  |.el k i o=>hK h k fun ob=>match ob with
   |.lst _ _ _ rows=>cM (lQ rows i o) fun c=>K c h n
   |.fl fs=>bif Nat.beq o 0 then(kR i fs fun fs=>match fs with
    |f::_=>K f h n
    |[]=>none)else none
   |.tr t rows _=>match iH t.ks o with
    |some _=>cM (lQ rows i o) fun _=>K .undef h n
    |none=>cM (lQ rows i o) fun c=>K c h n
   |_=>none
  |_=>none
 |.loadA m,[p]=>match p with
  |.ref k o=>hK h k fun ob=>match ob with
   |.box cs=>kR o cs fun cs=>tT m cs fun cs=>K (.agg cs) h n
   |_=>none
  |.ip cs=>tT m cs fun cs=>K (.agg cs) h n
  |.el k i o=>hK h k fun ob=>match ob with
   |.lst _ _ _ rows=>cM (mQ rows i o m) fun cs=>K (.agg cs) h n
   |.tr t rows _=>cM (mQ rows i o m) fun cs=>xT t.ks o cs fun cs=>K (.agg cs) h n
   |_=>none
  |_=>none
 |.store m,[p,x]=>match p with
  |.ref k o=>hK h k fun ob=>match ob with
   |.box cs=>nG x fun ys=>bif Nat.beq ys.length m then wE cs o ys fun cs=>iT h k (.box cs) fun h=>K .undef h n else none
   |_=>none
  |.el k i o=>hK h k fun ob=>match ob with
   |.lst ty e g rows=>nG x fun ys=>bif Nat.beq ys.length m&&ys.all iW then cM (pE rows i o ys) fun rows=>iT h k (.lst ty e g rows) fun h=>K .undef h n else none
   |.tr t rows hs=>nG x fun ys=>bif Nat.beq ys.length m then xU t.ks i o ys hs fun ys hs=>cM (pE rows i o ys) fun rows=>iT h k (.tr t rows hs) fun h=>K .undef h n else none
   |_=>none
  |_=>none
 |.fad off,[p]=>match p with
  |.ref k o=>K (.ref k (o+off)) h n
  |.ip cs=>kR off cs fun cs=>K (.ip cs) h n
  |.el k i o=>K (.el k i (o+off)) h n
  |_=>none
 |.iad e,[x,i]=>match i with
  |.v (.int _ i)=>match x with
   |.is e' rows=>bif Nat.beq e' e then cM (wF rows i) fun row=>K (.ip row) h n else none
   |.own k=>hK h k fun ob=>match ob with
    |.lst _ e' _ rows=>bif Nat.beq e' e then cM (sW rows.length i) fun i=>K (.el k i 0) h n else none
    |.fl fs=>bif Nat.beq e 1 then lC1 i (fun i=>bif Nat.blt i fs.length then K (.el k i 0) h n else none)else none
    |.tr t rows _=>match t with|.nd _ e' _=>bif Nat.beq e' e then cM (sW rows.length i) fun i=>K (.el k i 0) h n else none
    |_=>none
   |_=>none
  |_=>none
 |.iadA len esz,[p,i]=>match i with
  |.v (.int _ i)=>match p with
   |.ref k o=>Oq i len fun j=>K (.ref k (o+j*esz)) h n
   |_=>none
  |_=>none
 |.idxStr,[x,i]=>match x,i with
  |.v (.string s),.v (.int _ i)=>cM (tU s i) fun b=>K (.v (.int .u8 b)) h n
  |_,_=>none
 |.idxA len e agg,[x,i]=>match x,i with
  |.agg cs,.v (.int _ i)=>bif agg then cM (tV cs i len e) fun cs=>K (.agg cs) h n else cM (xO cs i len e) fun c=>K c h n
  |_,_=>none
 |.bin op,[x,y]=>vG1 op x y fun v=>K v h n
 |.eqB neg,[x,y]=>match x,y with
  |.v (.bool a),.v (.bool b)=>K (.v (.bool ((a==b)!=neg))) h n
  |_,_=>none
 |.eqA neg ks,[x,y]=>match x,y with
  |.agg as,.agg bs=>lB1 ks as bs fun r=>K (.v (.bool (r !=neg))) h n
  |_,_=>none
 |.un op,[x]=>match op,x with
  |.not,.v (.bool b)=>K (.v (.bool !b)) h n
  |.neg,.v (.int k m)=>K (.v (.int k (k.wrap (0-m)))) h n
  |.xor,.v (.int k m)=>K (.v (.int k (k.wrap (BitVec.ofInt k.bits (if k.signed then -1 else k.max)^^^BitVec.ofInt k.bits m).toNat))) h n
  |_,_=>none
 |.convI k,[x]=>match x with
  |.v (.int _ m)=>K (.v (.int k (k.wrap m))) h n
  |_=>none
 |.s2b _,[x]=>match x with
  |.v (.string s)=>K (.is 1 (byteRows s)) h n
  |_=>none
 |.mkfn f m,xs=>match f with
  |.func f=>tT m xs fun a=>kR m xs fun b=>K (.fn f a b) h n
  |_=>none
 |.mkmap,[]=>K (.map n) ((n,.mp [])::h) (n+1)
 |.mksl ty e _ zero,[l,c]=>match l,c with
  |.v (.int _ l),.v (.int _ c)=>bif iQ ty then none else wC (zero.map .v) fun z=>cM (pF l c z) fun rows=>K (.own n) ((n,.lst ty e true rows)::h) (n+1)
  |_,_=>none
 |.slc e lo hi mx,x::bs=>bif mx then none else match x with
  |.is e' rows=>bif Nat.beq e' e then Cm lo hi rows.length bs fun l r=>cM (qW rows l r) fun rows=>K (.is e rows) h n else none
  |_=>none
 |.lookup agg ks zero ok,[m,k]=>
  match zero with
  |.v z=>match m with
   |.im es=>bif eE 2 k then(bif ok then cM (xR agg ks (.v z) k es) fun r=>K (.tup [r.1,.v (.bool r.2)]) h n else cM (wG agg ks (.v z) k es) fun r=>K r h n)else none
   |.zm es=>bif eE 2 k then(bif ok then cM (xR agg ks (.v z) k es) fun r=>K (.tup [r.1,.v (.bool r.2)]) h n else cM (wG agg ks (.v z) k es) fun r=>K r h n)else none
   |.map j=>hK h j fun ob=>match ob with
    |.mp es=>bif eE 2 k then(bif ok then cM (xR agg ks (.v z) k es) fun r=>K (.tup [r.1,.v (.bool r.2)]) h n else cM (wG agg ks (.v z) k es) fun r=>K r h n)else none
    |_=>none
   |_=>none
  |_=>none
 |.mapup agg ks,[m,k,x]=>match m with
  |.map j=>hK h j fun ob=>match ob with
   |.mp es=>bif Sx k&&Sx x then cM (Ff agg ks k x es) fun es=>iT h j (.mp es) fun h=>K .undef h n else none
   |_=>none
  |_=>none
 |.len kd,[x]=>match x with
  |.is _ rows=>bif Nat.beq kd 0 then cM (some rows.length) fun m=>K (.v (.int .i64 m)) h n else none
  |.own k=>bif Nat.beq kd 0 then hK h k fun ob=>match ob with
   |.lst _ _ _ rows=>cM (some rows.length) fun m=>K (.v (.int .i64 m)) h n
   |.lz _ _ _ rows=>cM (some rows.length) fun m=>K (.v (.int .i64 m)) h n
   |.fl fs=>K (.v (.int .i64 fs.length)) h n
   |.tr _ rows _=>cM (some rows.length) fun m=>K (.v (.int .i64 m)) h n
   |_=>none else none
  |.zs _ _ rows=>bif Nat.beq kd 0 then cM (some rows.length) fun m=>K (.v (.int .i64 m)) h n else none
  |.v (.slice none 0 0)=>bif Nat.beq kd 0 then K (.v (.int .i64 0)) h n else none
  |.v (.string s)=>bif Nat.beq kd 1 then K (.v (.int .i64 s.size)) h n else none
  |_=>none
 |.mx,x::xs=>match x with
  |.v (.int k a)=>mnK true k a xs fun r=>K (.v (.int k r)) h n
  |_=>none
 |.ext i,[x]=>match x with
  |.tup vs=>kR i vs fun vs=>match vs with
   |v::_=>K v h n
   |[]=>none
  |_=>none
 |_,_=>none
structure NX where
 is:FuncId->Bool
 nw:FuncId->Bool
 xw:FuncId->Bool
 run:{R:Type}->FuncId->List PV->aS->Nat->(PV->aS->Nat->Option R)->Option R
 yld:{R:Type}->Nat->List PV->aS->Nat->(PV->aS->Nat->Option R)->Option R
abbrev zF:=FuncId->aA PV->aB PV
def Cn (h:aS):aA PV->(aA PV->aB R)->aB R
 |[],K=>K []
 |x::xs,K=>Ky h 5 x fun x=>Cn h xs fun xs=>K (x::xs)
def Bn (C:zF) (f:FuncId) (xs:aA PV) (h:aS) (K:PV->aB R):aB R:=
 bif xs.all (eE 4)then cM (C f xs) fun v=>fV v K
 else Cn h xs fun xs=>cM (C f xs) fun v=>fV v fun v=>bif zY 4 v then K v else none
def Vj (h:aS) (es dp:Nat) (x:PV) (K:aA (aA PV)->aB R):aB R:=
 match x with
 |.is e' rows=>bif Nat.beq e' es then K rows else none
 |.own k=>hK h k fun ob=>match ob with
  |.lst _ e' _ rows=>bif Nat.beq e' es then K rows else none
  |.lz _ e' dp' rows=>bif Nat.beq e' es&&Nat.ble dp' dp then K rows else none
  |_=>none
 |.zs d e' rows=>bif Nat.beq e' es&&Nat.ble d (dp+1)then K rows else none
 |.v (.slice none 0 0)=>K []
 |_=>none
def dG1 (e:gG) (h:aS) (d ty es:Nat) (kill:aA Nat) (k:Nat) (t:TD) (rows:aA (aA PV)) (hs:aA (Nat×Nat×PV)) (a:Nat) (b:dX) (K:gG->aS->aB R):aB R:=
 match t,hs,b with
 |.nd ty' es' ks,[],.tr t2 rows2 []=>bif (Nat.beq es' es&&Nat.beq ty' ty)&&(Kx 8 t2 (.nd ty' es' ks)&& !(Nat.beq k a))then cM (appRows true rows rows2) fun rows=>
   kT e (d::kill) fun e=>pH k e fun e=>pH a e fun e=>lU k h fun h=>lU a h fun h=>iT h a (.lst 0 0 true []) fun h=>iT h k (.tr (.nd ty' es' ks) rows []) fun h=>K ((d,.own k)::e) h
  else none
 |_,_,_=>none
def vJ1 (e:gG) (h:aS) (d ty es:Nat) (kill:aA Nat) (s x:PV) (K:gG->aS->aB R):aB R:=
 match s with
 |.own k=>hK h k fun ob=>match ob with
  |.lst ty' es' g rows=>dD1 h es x fun new=>bif Nat.beq es' es&&(Nat.beq ty' ty&& !(iQ ty'))then cM (appRows g rows new) fun rows=>
    kT e (d::kill) fun e=>pH k e fun e=>lU k h fun h=>iT h k (.lst ty' es' g rows) fun h=>K ((d,.own k)::e) h
   else none
  |.lz ty' es' dp rows=>Vj h es dp x fun new=>bif Nat.beq es' es&&(Nat.beq ty' ty&& !(iQ ty'))then cM (appRows false rows new) fun rows=>
    kT e (d::kill) fun e=>pH k e fun e=>lU k h fun h=>iT h k (.lz ty' es' dp rows) fun h=>K ((d,.own k)::e) h
   else none
  |.tr t rows hs=>match x with
   |.own k2=>hK h k2 fun a=>dG1 e h d ty es kill k t rows hs k2 a K
   |_=>none
  |_=>none
 |_=>none
def sX (f:PV->aA Nat->(aA Nat->aB R)->aB R):aA PV->aA Nat->(aA Nat->aB R)->aB R
 |[],a,K=>K a
 |x::xs,a,K=>f x a fun a=>sX f xs a K
def Ov (f:PV->aA Nat->(aA Nat->aB R)->aB R):gG->aA Nat->(aA Nat->aB R)->aB R
 |[],a,K=>K a
 |(_,x)::xs,a,K=>f x a fun a=>Ov f xs a K
def mR:Nat->PV->aA Nat->(aA Nat->aB R)->aB R
 |0,_,_,_=>none
 |d+1,x,a,K=>match x with
  |.ref k _=>K (k::a)
  |.own k=>K (k::a)
  |.el k _ _=>K (k::a)
  |.map k=>K (k::a)
  |.yld k=>K (k::a)
  |.fn _ p q=>sX (mR d) p a fun a=>sX (mR d) q a K
  |.agg cs=>sX (mR d) cs a K
  |.tup cs=>sX (mR d) cs a K
  |_=>K a
def nH (h:aS):Nat->aA Nat->aA Nat->(aA Nat->aB R)->aB R
 |0,_,_,_=>none
 |_+1,[],a,K=>K a
 |n+1,k::b,a,K=>bif wD k a then nH h n b a K else hK h k fun ob=>match ob with
  |.box cs=>sX (mR 4) cs b fun b=>nH h n b (k::a) K
  |.fl cs=>sX (mR 4) cs b fun b=>nH h n b (k::a) K
  |.loop _ e _ _ _ _ _=>Ov (mR 4) e b fun b=>nH h n b (k::a) K
  |.tr _ _ hs=>sX (mR 4) (hs.map fun q=>q.2.2) b fun b=>nH h n b (k::a) K
  |_=>nH h n b (k::a) K
def Ow:aS->aA Nat->(aS->aS->aB R)->aB R
 |[],_,K=>K [] []
 |(k,o)::r,ns,K=>Ow r ns fun a b=>bif wD k ns then K ((k,o)::a) b else K a ((k,o)::b)
def lK:aS->Nat->Bool
 |[],_=>false
 |(j,_)::r,k=>bif Nat.beq j k then true else lK r k
def oI (p:Nat->Bool):Nat->PV->Bool
 |0,_=>false
 |d+1,x=>match x with
  |.ref k _|.own k|.el k _ _|.map k|.yld k=>p k
  |.fn _ a b=>a.all (oI p d)&&b.all (oI p d)
  |.agg cs=>cs.all (oI p d)
  |.tup cs=>cs.all (oI p d)
  |_=>true
def La (p:Nat->Bool):dX->Bool
 |.box cs=>cs.all (oI p 4)
 |.fl cs=>cs.all (oI p 4)
 |.loop _ e _ _ _ _ _=>e.all fun q=>oI p 4 q.2
 |.tr _ _ hs=>hs.all fun q=>oI p 4 q.2.2
 |_=>true
def mS (p:Nat->Bool):aS->Bool
 |[]=>true
 |(_,o)::r=>La p o&&mS p r
def qO:aS->gG->aS->(gG->aS->aB R)->aB R
 |[],e,h,K=>K e h
 |(k,o)::r,e,h,K=>match o with
  |.lst ty .. =>bif iQ ty then qO r e h K else pH k e fun e=>lU k h fun h=>qO r e h K
  |.lz .. =>pH k e fun e=>lU k h fun h=>qO r e h K
  |.tr .. =>pH k e fun e=>lU k h fun h=>qO r e h K
  |_=>qO r e h K
def sY:aS->Bool
 |[]=>true
 |(_,o)::r=>match o with
  |.tr .. =>false
  |_=>sY r
def Bo:aS->aS->(aS->aB R)->aB R
 |[],b,K=>K b
 |(k,o)::r,b,K=>Bo r b fun r=>K ((k,o)::r)
def tW:aS->aA Nat
 |[]=>[]
 |(k,_)::r=>k::tW r
def Yv (hs:aS) (n:Nat):aS->Bool
 |[]=>true
 |(k,_)::r=>bif lK hs k||Nat.ble n k then Yv hs n r else false
def Yw (a:aS):aA Nat->Bool
 |[]=>true
 |k::r=>bif lK a k then Yw a r else false
def Yx (hs:aS):aS->Bool
 |[]=>true
 |(k,_)::r=>bif lK hs k then Yx hs r else false
def bnd:aS->Nat->Nat
 |[],m=>m
 |(k,_)::r,m=>bif Nat.blt k m then bnd r m else bnd r (k+1)
def Lb (hs:aS) (nw:Bool) (n:Nat) (v:PV) (h':aS) (n':Nat):aB (PV×aS×Nat):=
 sX (mR 5) [v] (tW hs) fun a=>nH h' 60 a [] fun b=>Ow h' b fun h2 _=>
  bif Yw h2 (tW hs)&&(bif nw then Yv hs n h2 else Yx hs h2)&&(oI (lK h2) 5 v&&mS (lK h2) h2)then some (v,h2,bif nw then n' else 0)else none
def inK (run:aS->Nat->(PV->aS->Nat->aB (PV×aS×Nat))->aB (PV×aS×Nat)) (nw:Bool) (xs:aA PV) (e:gG) (h:aS) (n:Nat) (kill:aA Nat) (K:PV->gG->aS->Nat->aB R):aB R:=
 sX (mR 5) xs [] fun a=>nH h 60 a [] fun c=>Ow h c fun hs b=>
  bif xs.all (oI (lK hs) 5)&&(mS (lK hs) hs&&(sY hs||sY b))then
   cM (run hs (bif nw then n else bnd hs 0) (Lb hs nw (bif nw then n else bnd hs 0))) fun r=>
    fV r.1 fun v=>Bo r.2.1 [] fun h2=>kT e kill fun e=>qO h2 e b fun e b=>Bo h2 b fun h=>K v e h (bif nw then r.2.2 else n)
  else none
def Yy:aS->Bool
 |[]=>true
 |(_,o)::r=>(match o with|.lst ty _ _ _=> !(iQ ty)|.tr _ _ hs=>hs.isEmpty|_=>false)&&Yy r
def Lc:Nat->PV->Bool
 |0,_=>false
 |d+1,x=>match x with
  |.v _|.is _ _|.ip _|.im _|.own _=>true
  |.agg cs=>cs.all (Lc d)
  |.tup cs=>cs.all (Lc d)
  |_=>false
def inE (run:aS->Nat->(PV->aS->Nat->aB (PV×aS×Nat))->aB (PV×aS×Nat)) (nw:Bool) (xs:aA PV) (e:gG) (h:aS) (n:Nat) (kill:aA Nat) (K:PV->gG->aS->Nat->aB R):aB R:=
 bif nw&&xs.all (eE 4)then cM (run [] n (Lb [] true n)) fun r=>bif Yy r.2.1&&Lc 4 r.1 then fV r.1 fun v=>Bo r.2.1 h fun h=>kT e kill fun e=>K v e h r.2.2 else none else none
def Sy:aS->(aS->aB R)->aB R
 |[],K=>K []
 |(k,o)::r,K=>match o with
  |.lst ty e g rows=>bif iQ ty then none else Sy r fun r=>K ((k,.lst (ty+4294967296) e g rows)::r)
  |.lz .. =>none
  |o=>Sy r fun r=>K ((k,o)::r)
def Bp:aS->aS->(aS->aB R)->aB R
 |_,[],K=>K []
 |h,(k,o)::r,K=>hK h k fun o0=>match o0 with
  |.lst .. =>match o with
   |.lst ty e g rows=>bif iQ ty&& !(iQ (ty-4294967296))then Bp h r fun r=>K ((k,.lst (ty-4294967296) e g rows)::r)else none
   |_=>none
  |_=>match o with
   |.lst .. =>none
   |.lz .. =>none
    |o=>Bp h r fun r=>K ((k,o)::r)
def lE1 (fx:Bool) (run:aS->Nat->(PV->aS->Nat->aB (PV×aS×Nat))->aB (PV×aS×Nat)) (nw:Bool) (xs:aA PV) (e:gG) (h:aS) (n:Nat) (kill:aA Nat) (K:PV->gG->aS->Nat->aB R):aB R:=
 bif fx then Sy h fun h1=>inK run nw xs e h1 n kill fun v e h2 n=>Bp h h2 fun a=>K v e a n
 else inK run nw xs e h n kill K
def Sz (e:gG) (h:aS) (d es:Nat) (kill:aA Nat) (k:Nat) (hi:Int) (K:gG->aS->aB R):aB R:=
 hK h k fun ob=>match ob with
 |.lst ty es' _ rows=>bif Nat.beq es' es&& !(iQ ty)then cM (uR rows hi) fun rows=>
   kT e (d::kill) fun e=>pH k e fun e=>lU k h fun h=>iT h k (.lst ty es' true rows) fun h=>K ((d,.own k)::e) h
  else none
 |_=>none
def opK (C:zF) (X:NX) (k:hZ) (as:aA PV) (h:aS) (n:Nat) (K:PV->aS->Nat->aB R):aB R:=
 match k,as with
 |.callF f,as=>bif X.is f then none else Bn C f as h fun v=>K v h n
 |.callV,.fn f first cap::as=>bif X.is f then none else Bn C f (first++as++cap) h fun v=>K v h n
 |k,as=>gB k as h n K
def Yz:aA (aB Nat)->aA PV->(aA PV->aB R)->aB R
 |[],[],K=>K []
 |o::os,x::xs,K=>Yz os xs fun xs=>match o with
  |none=>K (x::xs)
  |some e=>match x with
   |.v (.slice none 0 0)=>K (.is e []::xs)
   |_=>none
 |_,_,_=>none
def qY (ty e:Nat) (g:Bool):dX:=bif Nat.ble 4294967296 e then .lz ty (e%4294967296) (e/4294967296) []else .lst ty e g []
def Ox:aS->Nat->(aS->aB R)->aB R
 |[],_,K=>K []
 |(j,o)::r,k,K=>bif Nat.beq j k then Ox r k K else Ox r k fun r=>K ((j,o)::r)
def Oy:hZ->Bool
 |.store _|.mapup .. =>true
 |_=>false
def lF1:PV->Bool
 |.fn .. =>true
 |_=>false
def dA:kM->aA Nat->aA Nat
 |.nil,a=>a
 |.op d _ _ _ r,a=>d::dA r a
 |.sto _ _ _ r,a=>dA r a
 |.ifx d _ _ b _ _ r,a=>d::dA b (dA r a)
 |.ifn d _ _ b _ _ r,a=>d::dA b (dA r a)
 |.mkfl d _ _ _ _ r,a=>d::dA r a
 |.lax _ _ r,a=>dA r a
 |.own _ _ _ _ r,a=>dA r a
 |.ownc _ _ _ _ _ r,a=>dA r a
 |.laxc _ _ _ r,a=>dA r a
 |.opn d _ _ _ _ r,a=>d::dA r a
 |.bst d _ _ _ _ _ _ r,a=>d::dA r a
 |.gc _ r,a=>dA r a
 |.clr d _ _ _ _ _ r,a=>d::dA r a
 |.tre _ _ _ r,a=>dA r a
def vL1 (e:gG) (h:aS) (a:Nat) (K:gG->aS->aB R):aB R:=
 bif sO1 a e h then K e h else match lD1 a h with
 |none=>K e h
 |some kp=>hK h kp fun op=>match op with
  |.tr t rows hs=>match wH hs a with
   |some (j,i)=>match iH t.ks j with
    |some t'=>hK h a fun ob=>vH1 t' ob fun es rows'=>cM (pE rows i j [.is es rows']) fun b=>
      pH a e fun e=>lU a h fun h=>iT h a (.lst 0 0 true []) fun h=>Fg a (vO hs a) fun hs=>iT h kp (.tr t b hs) fun h=>K e h
    |none=>none
   |none=>none
  |_=>none
def gcK:aA Nat->gG->aS->(gG->aS->aB R)->aB R
 |[],e,h,K=>K e h
 |k::ks,e,h,K=>vL1 e h k fun e h=>gcK ks e h K
def xV (rows:aA (aA PV)) (lo:Int) (z:aA PV):aB (aA (aA PV)):=if 0<=lo/\lo<=rows.length then some (rows.take lo.toNat++List.replicate (rows.length-lo.toNat) z)else none
def dH1:PV->Bool
 |.own _=>true
 |.el .. =>true
 |_=>false
def Vk:aS->aA Nat->(aS->aB R)->aB R
 |[],_,K=>K []
 |(k,o)::r,ns,K=>Vk r ns fun r=>match o with
  |.box cs=>bif wD k ns|| !(cs.any dH1)then K ((k,.box cs)::r)else K ((k,.box (cs.map fun _=>.undef))::r)
  |o=>K ((k,o)::r)
def Iw:gG->aA Nat->(gG->aB R)->aB R
 |[],_,K=>K []
 |(j,v)::r,ks,K=>bif wD j ks then Iw r ks fun r=>K ((j,v)::r)else Iw r ks K
def Ix (ks:aA (Nat×TD)) (es:Nat):Nat->aA PV->aA (Nat×Nat×PV)->(aA (aA PV)->aA (Nat×Nat×PV)->aB R)->aB R
 |_,[],hs,K=>K [] hs
 |i,x::xs,hs,K=>nG x fun cs=>bif Nat.beq cs.length es then xU ks i 0 cs [] fun cs a=>Ix ks es (i+1) xs (a++hs) fun r hs=>K (cs::r) hs else none
def dI1 (e:gG) (h:aS) (d:Nat) (j:aB Nat) (K:PV->aB R):aB R:=vG e d fun v=>match j with
 |none=>K v
 |some j=>match v with
  |.agg cs=>kR j cs fun cs=>match cs with
   |c::_=>K c
   |[]=>none
  |.ref k o=>hK h k fun ob=>match ob with
   |.box cs=>kR (o+j) cs fun cs=>match cs with
    |c::_=>K c
    |[]=>none
   |_=>none
  |_=>none
def fP (C:zF) (X:NX) (dr:Nat):kM->gG->aS->Nat->(gG->aS->Nat->aB R)->aB R
 |.nil,e,h,n,K=>K e h n
 |.op d k xs kill dK,e,h,n,K=>qV e xs fun as=>
  match k,as with
  |.append ty es _ _ false,[s,x]=>vJ1 e h d ty es kill s x fun e h=>fP C X dr dK e h n K
  |.slc es false true false,[.own k,.v (.int _ hi)]=>Sz e h d es kill k hi fun e h=>fP C X dr dK e h n K
  |.callF f,as=>bif X.is f then bif Nat.beq dr 5 then bif X.xw f then inE (X.run f as) (X.nw f) as e h n (d::kill) fun v e h n=>fP C X dr dK ((d,v)::e) h n K else none
    else bif X.xw f&& !(Nat.beq dr 0)then none else lE1 (wD 4294967296 kill) (X.run f as) (X.nw f) as e h n (d::kill) fun v e h n=>fP C X dr dK ((d,v)::e) h n K
   else Bn C f as h fun v=>kT e (d::kill) fun e=>fP C X dr dK ((d,v)::e) h n K
  |.callV,.yld k::as=>bif Nat.beq dr 3||Nat.beq dr 5 then none else inK (X.yld k as) false (.yld k::as) e h n (d::kill) fun v e h n=>fP C X dr dK ((d,v)::e) h n K
  |.callV,.fn f first cap::as=>bif X.is f then bif Nat.beq dr 3||(Nat.beq dr 5||(X.xw f&& !(Nat.beq dr 0)))then none else lE1 (wD 4294967296 kill) (X.run f (first++as++cap)) (X.nw f) (first++as++cap) e h n (d::kill) fun v e h n=>fP C X dr dK ((d,v)::e) h n K
   else Bn C f (first++as++cap) h fun v=>kT e (d::kill) fun e=>fP C X dr dK ((d,v)::e) h n K
  |k,as=>opK C X k as h n fun v h n=>kT e (d::kill) fun e=>fP C X dr dK ((d,v)::e) h n K
 |.sto k xs kill dK,e,h,n,K=>qV e xs fun as=>gB k as h n fun _ h n=>kT e kill fun e=>fP C X dr dK e h n K
 |.ifx d c w body x kill dK,e,h,n,K=>vG e c fun a=>match a with
  |.v (.bool b)=>
   cM (bif w then Om b (opsB C X body e h n x) (some false)else Om b (some true) (opsB C X body e h n x))
    fun y=>kT e (d::dA body kill) fun e=>fP C X dr dK ((d,.v (.bool y))::e) h n K
  |_=>none
 |.ifn d c w body x kill dK,e,h,n,K=>vG e c fun a=>match a with
  |.v (.bool b)=>
   bif w then Om b (fP C X dr body e h n fun e h n=>qV e [x] fun vs=>match vs with
     |[y]=>kT e (d::dA body kill) fun e=>fP C X dr dK ((d,y)::e) h n K
     |_=>none) (kT e (d::dA body kill) fun e=>fP C X dr dK ((d,.v (.bool false))::e) h n K)
   else Om b (kT e (d::dA body kill) fun e=>fP C X dr dK ((d,.v (.bool true))::e) h n K) (fP C X dr body e h n fun e h n=>qV e [x] fun vs=>match vs with
     |[y]=>kT e (d::dA body kill) fun e=>fP C X dr dK ((d,y)::e) h n K
     |_=>none)
  |_=>none
 |.mkfl d ty zero xs kill dK,e,h,n,K=>qV e xs fun as=>bif Nat.beq zero.length 1&&as.all lF1 then kT e (d::kill) fun e=>fP C X dr dK ((d,.own n)::e) ((n,.fl as)::h) (n+1) K else none
 |.lax d es dK,e,h,n,K=>vG e d fun v=>match v,es with
  |.v (.slice none 0 0),[some s]=>kT e [d] fun e=>fP C X dr dK ((d,.is s [])::e) h n K
  |.agg cs,es=>Yz es cs fun cs=>kT e [d] fun e=>fP C X dr dK ((d,.agg cs)::e) h n K
  |_,_=>none
 |.own d ty s g dK,e,h,n,K=>vG e d fun v=>match v with
  |.v (.slice none 0 0)=>kT e [d] fun e=>fP C X dr dK ((d,.own n)::e) ((n,qY ty s g)::h) (n+1) K
  |_=>none
 |.laxc d j s dK,e,h,n,K=>vG e d fun v=>match v with
  |.ref k _=>hK h k fun ob=>match ob with
   |.box cs=>kR j cs fun cs'=>match cs' with
    |.v (.slice none 0 0)::_=>wE cs j [.is s []] fun cs=>iT h k (.box cs) fun h=>fP C X dr dK e h n K
    |_=>none
   |_=>none
  |_=>none
 |.ownc d j ty s g dK,e,h,n,K=>vG e d fun v=>match v with
  |.ref k _=>hK h k fun ob=>match ob with
   |.box cs=>kR j cs fun cs'=>match cs' with
    |.v (.slice none 0 0)::_=>wE cs j [.own n] fun cs=>iT h k (.box cs) fun h=>fP C X dr dK e ((n,qY ty s g)::h) (n+1) K
    |_=>none
   |_=>none
  |_=>none
 |.opn d m x kill js dK,e,h,n,K=>qV e [x] fun vs=>match vs with
  |[.el k i o]=>hK h k fun ob=>match ob with
   |.tr t rows hs=>match m with
    |none=>cM (lQ rows i o) fun c=>Ot t.ks i o [c] js [.undef] hs h n fun cs hs h n=>match cs with
     |[v]=>iT h k (.tr t rows hs) fun h=>kT e (d::kill) fun e=>fP C X dr dK ((d,v)::e) h n K
     |_=>none
    |some m=>cM (mQ rows i o m) fun cs0=>xT t.ks o cs0 fun cs=>Ot t.ks i o cs0 js cs hs h n fun cs hs h n=>iT h k (.tr t rows hs) fun h=>kT e (d::kill) fun e=>fP C X dr dK ((d,.agg cs)::e) h n K
   |_=>none
  |_=>none
 |.bst d t len zero parts xs kill dK,e,h,n,K=>qV e xs fun as=>match t with
  |.nd ty es ks=>bif Kz 0 parts&&(Nat.beq zero.length es&&(!(iQ ty)&&Nat.beq parts.length len))then Ix ks es 0 as [] fun rows hs=>bif Nat.beq rows.length len then
    kT e (d::kill) fun e=>fP C X dr dK ((d,.own n)::e) ((n,.tr t rows hs)::h) (n+1) K else none else none
 |.clr d es zero x y kill dK,e,h,n,K=>qV e [x,y] fun vs=>match vs with
  |[.own k,.v (.int _ lo)]=>hK h k fun ob=>match ob with
   |.lst ty es' g rows=>bif Nat.beq es' es&&Nat.beq zero.length es then wC (zero.map .v) fun z=>cM (xV rows lo z) fun rows=>iT h k (.lst ty es' g rows) fun h=>kT e (d::kill) fun e=>fP C X dr dK e h n K else none
   |_=>none
  |_=>none
 |.gc keep dK,e,h,n,K=>Iw e keep fun e=>Ov (mR 5) e [] fun l=>nH h 60 l [] fun p=>Vk h p fun h=>gcK (tW h) e h fun e h=>fP C X dr dK e h n K
 |.tre d j t dK,e,h,n,K=>dI1 e h d j fun v=>match v with
  |.own k=>hK h k fun ob=>match ob with
   |.lst ty es _ []=>match t with
    |.nd ty' es' _=>bif Nat.beq ty ty'&&(Nat.beq es es'&& !(iQ ty))then iT h k (.tr t [] []) fun h=>fP C X dr dK e h n K else none
   |_=>none
  |_=>none
 where
 opsB (C:zF) (X:NX):kM->gG->aS->Nat->PX->aB Bool
 |.nil,e,_,_,x=>qV e [x] fun vs=>match vs with
  |[.v (.bool b)]=>some b
  |_=>none
 |.op d k xs kill dK,e,h,n,x=>qV e xs fun as=>
  bif Oy k then none else opK C X k as h n fun v h n=>kT e (d::kill) fun e=>opsB C X dK ((d,v)::e) h n x
 |.ifx d c w body x' kill dK,e,h,n,x=>vG e c fun a=>match a with
  |.v (.bool b)=>
   cM (bif w then Om b (opsB C X body e h n x') (some false)else Om b (some true) (opsB C X body e h n x'))
    fun y=>kT e (d::dA body kill) fun e=>opsB C X dK ((d,.v (.bool y))::e) h n x
  |_=>none
 |_,_,_,_,_=>none
def qZ (n:Nat):Nat->PV->Bool
 |0,_=>false
 |d+1,x=>match x with
  |.ref k _|.own k|.el k _ _|.map k|.yld k=>Nat.blt k n
  |.fn _ a b=>a.all (qZ n d)&&b.all (qZ n d)
  |.agg cs=>cs.all (qZ n d)
  |.tup cs=>cs.all (qZ n d)
  |_=>true
def Vl:gG->Nat->(PV->aB R)->aB R->aB R
 |[],_,_,D=>D
 |(j,v)::r,i,K,D=>bif Nat.beq j i then K v else Vl r i K D
def Oz:gG->aA Nat->Nat->(gG->aB R)->aB R
 |_,[],_,K=>K []
 |e,i::is,n,K=>Vl e i (fun v=>bif qZ n 4 v then Oz e is n fun r=>K ((i,v)::r)else none) (Oz e is n K)
def xW (n:Nat):dX->Bool
 |.box cs=>cs.all (qZ n 4)
 |.fl cs=>cs.all (qZ n 4)
 |.loop _ e _ _ _ _ _=>e.all fun q=>qZ n 4 q.2
 |.tr _ _ hs=>hs.all fun q=>qZ n 4 q.2.2
 |_=>true
def Vm:aS->aS->Nat->(aS->aB R)->aB R
 |[],_,_,K=>K []
 |(k,_)::r,h,n,K=>hK h k fun o=>bif xW n o then Vm r h n fun r=>K ((k,o)::r)else none
def aW {S E:Type} (body:S->aB (S⊕E)):Nat->S->aB E
 |0,_=>none
 |n+1,s=>(body s).bind fun r=>match r with
  |.inl s=>aW body n s
  |.inr e=>some e
def bP:Nat:=18446744073709551616
structure Mt where
 e:gG
 h:aS
def Fk (body:gG->aS->(Ex->gG->aS->aB R)->aB R) (a:gG->aS->(Mt->aB R)->aB R):Nat->Mt->(Ex->Mt->aB R)->aB R
 |0,_,_=>none
 |m+1,s,K=>body s.e s.h fun x e h=>a e h fun s=>match x with
  |.normal=>Fk body a m s K
  |.exit i=>K (.exit i) s
  |.ret=>K .ret s
def Vn:gG->aA Nat->(gG->aB R)->aB R
 |_,[],K=>K []
 |e,i::is,K=>vG e i fun v=>Vn e is fun r=>K ((i,v)::r)
def pI (keep:aA Nat) (h0:aS) (n0:Nat) (e:gG) (h:aS) (K:Mt->aB R):aB R:=
 Oz e keep n0 fun e=>Vm h0 h n0 fun h=>K ⟨e,h⟩
def lk (x:Ex) (a b:aA Nat):aA Nat:=match x with
 |.normal=>a
 |_=>b
abbrev gY (X:NX) (f:FuncId) (xs:aA PV) (hs:aS) (m:Nat) (nw:Bool):aB (PV×aS×Nat):=X.run f xs hs m (Lb hs nw m)
abbrev Fl (X:NX) (k:Nat) (xs:aA PV) (hs:aS) (m:Nat):aB (PV×aS×Nat):=X.yld k xs hs m (Lb hs false m)
def gD:gG->Nat->aB PV
 |[],_=>none
 |(j,v)::r,i=>if j=i then some v else gD r i
def aK:aS->Nat->aB dX
 |[],_=>none
 |(j,v)::r,i=>if j=i then some v else aK r i
def xX:PV->aB Nat
 |.ref k _|.own k|.el k _ _|.map k=>some k
 |_=>none
def dJ1:PV->Bool
 |.ip _|.v _|.is _ _|.im _=>true
 |_=>false
def Ta (h:aS) (x y:PV):Bool:=dJ1 x||dJ1 y||match xX x,xX y with
 |some k,some k'=> !Nat.beq k k'&&(aK h k).isSome&&(aK h k').isSome
 |_,_=>false
def Ld (h:aS) (k:Nat):Bool:=match aK h k with
 |some (.box _)=>true
 |_=>false
def exB (h0:aS) (e:gG) (h:aS) (ex:aA (Nat×Nat×Nat×Nat)):Bool:=ex.all fun p=>bif Nat.beq p.2.2.1 999999 then(match gD e p.2.2.2 with
 |some (.ref k _)=>Ld h0 k&&Ld h k
 |_=>false)else match gD e p.2.2.1,gD e p.2.2.2 with
 |some x,some y=>Ta h x y
 |_,_=>false
def jJ (C:zF) (X:NX) {R:Type}:PC->gG->aS->Nat->(Ex->gG->aS->Nat->aB R)->aB R
 |.skip,e,h,n,K=>K .normal e h n
 |.reg ops,e,h,n,K=>fP C X 0 ops e h n (K .normal)
 |.regD dr ops _,e,h,n,K=>fP C X dr ops e h n (K .normal)
 |.dead _,_,_,_,_=>none
 |.regX dr ops _ ex,e,h,n,K=>fP C X dr ops e h n fun e h' n=>bif exB h e h' ex then K .normal e h' n else none
 |.seq a b,e,h,n,K=>jJ C X a e h n (fun x e h n=>match x with|.normal=>jJ C X b e h n K|.exit i=>K (.exit i) e h n|.ret=>K .ret e h n)
 |.cond c a b,e,h,n,K=>qV e [c] fun vs=>match vs with
  |[.v (.bool t)]=>Om t (jJ C X a e h n K) (jJ C X b e h n K)
  |_=>none
 |.condJ keep c a b,e,h,n,K=>qV e [c] fun vs=>match vs with
  |[.v (.bool t)]=>cM (Om t (jJ C X a e h n fun x e' h' _=>pI keep h n e' h' fun s=>some (x,s)) (jJ C X b e h n fun x e' h' _=>pI keep h n e' h' fun s=>some (x,s)))
    fun r=>K r.1 r.2.e r.2.h n
  |_=>none
 |.block id c,e,h,n,K=>jJ C X c e h n (fun x e h n=>match x with|.exit i=>bif Nat.beq i id then K .normal e h n else K (.exit i) e h n|.normal=>K .normal e h n|.ret=>K .ret e h n)
 |.loop keep kx c,e,h,n,K=>pI keep h n e h fun s0=>
   cM (aW (fun s:Mt=>jJ C X c s.e s.h n fun x e' h' _=>pI (lk x keep kx) h n e' h' fun s'=>some (match x with|.normal=>.inl s'|x=>.inr (x,s'))) bP s0)
    fun r=>K r.1 r.2.e r.2.h n
 |.condL c a b,e,h,n,K=>qV e [c] fun vs=>match vs with
  |[.v (.bool t)]=>match t with
   |true=>jJ C X a e h n K
   |false=>jJ C X b e h n K
  |_=>none
 |.loopU m keep c,e,h,n,K=>pI keep h n e h fun s0=>
   Fk (fun e h K=>jJ C X c e h n fun x e h _=>K x e h) (fun e' h' K=>pI keep h n e' h' K) m s0 fun x s=>K x s.e s.h n
 |.rangeF N keep f ps a b,e,h,n,K=>qV e [f] fun vs=>match vs with
  |[.fn g first cap]=>bif X.is g then Vn e keep fun d=>
    inK (X.run g (first++[.yld n]++cap)) false (first++[.yld n]++cap) e ((n,.loop N d ps a b false none)::h) (n+1) [] fun _ e h m=>
     hK h n fun ob=>match ob with
     |.loop _ _ _ _ _ false fin=>Ox h n fun h=>match fin with
      |none=>K .normal e h m
      |some (.exit i)=>K (.exit i) e h m
      |some .ret=>K .ret e h m
      |some .normal=>none
     |_=>none
   else none
  |_=>none
 |.exit id,e,h,n,K=>K (.exit id) e h n
 |.ret,e,h,n,K=>K .ret e h n
end
end Go.P
namespace Go.P
open Go.Sim (AV AO Hp iJ upd St IC IX Ex hZ CK)
def zS1:PV->AV
 |.v x=>.v x
 |_=>.tup []
def eV:PV->AV
 |.v x=>.v x
 |.is _ []=>.v (.slice none 0 0)
 |.fn f [] []=>.fn (.func f) [] []
 |.agg cs=>.agg (cs.map zS1)
 |_=>.tup []
def isV:PV->Bool
 |.v _=>true
 |_=>false
def okC:PV->Bool
 |.v _=>true
 |.is _ []=>true
 |.fn _ [] []=>true
 |.agg cs=>cs.all isV
 |_=>false
def eX:PX->IX
 |.t i=>.t i
 |.c x=>.c (eV x)
def rP (g:aB (Nat×Bool)):kM->aA Sim.Op1
 |.nil=>[]
 |.op d k xs _ r=>⟨some d,k,xs.map eX,g⟩::rP g r
 |.sto k xs _ r=>⟨none,k,xs.map eX,g⟩::rP g r
 |.ifx d c w b x _ r=>rP (some (c,w)) b++⟨some d,.pick,if w then[.t c,eX x,.c (.v (.bool false))]else[.t c,.c (.v (.bool true)),eX x],g⟩::rP g r
 |.ifn d c w b x _ r=>rP (some (c,w)) b++⟨some d,.pick,if w then[.t c,eX x,.c (.v (.bool false))]else[.t c,.c (.v (.bool true)),eX x],g⟩::rP g r
 |.mkfl d ty zero xs _ r=>⟨some d,.buildSl ty 1 xs.length zero (List.range xs.length),xs.map eX,g⟩::rP g r
 |.lax _ _ r=>rP g r
 |.own _ _ _ _ r=>rP g r
 |.ownc _ _ _ _ _ r=>rP g r
 |.laxc _ _ _ r=>rP g r
 |.opn d m x _ _ r=>⟨some d,(match m with|none=>.loadS|some m=>.loadA m),[eX x],g⟩::rP g r
 |.bst d t len zero parts xs _ r=>⟨some d,(match t with|.nd ty e _=>.buildSl ty e len zero parts),xs.map eX,g⟩::rP g r
 |.gc _ r=>rP g r
 |.clr d es zero x y _ r=>⟨some d,.slc es true false false,[eX x,eX y],g⟩::⟨none,.clear es zero,[.t d],g⟩::rP g r
 |.tre _ _ _ r=>rP g r
def xY:kM->Bool
 |.nil=>true
 |.lax _ _ r=>xY r
 |.own _ _ _ _ r=>xY r
 |.ownc _ _ _ _ _ r=>xY r
 |.laxc _ _ _ r=>xY r
 |.gc _ r=>xY r
 |.tre _ _ _ r=>xY r
 |_=>false
def sP1:kM->Bool
 |.nil=>true
 |_=>false
def mT:PC->IC
 |.skip=>.skip
 |.reg ops=>.reg (rP none ops)
 |.regD _ ops before=>.regD (rP none ops) before
 |.dead c=>c
 |.regX _ ops before _=>.regD (rP none ops) before
 |.seq a b=>match a with
  |.reg ops=>if xY ops&& !sP1 ops then mT b else .seq (.reg (rP none ops)) (mT b)
  |a=>match b with
   |.reg ops=>if xY ops&& !sP1 ops then mT a else .seq (mT a) (.reg (rP none ops))
   |b=>.seq (mT a) (mT b)
 |.cond c a b=>.cond (eX c) (mT a) (mT b)
 |.condJ _ c a b=>.cond (eX c) (mT a) (mT b)
 |.condL c a b=>.cond (eX c) (mT a) (mT b)
 |.block id c=>.block id (mT c)
 |.loop _ _ c=>.loop (mT c)
 |.loopU _ _ c=>.loop (mT c)
 |.rangeF _ _ f ps a b=>.rangeF (eX f) ps (mT a) (mT b)
 |.exit id=>.exit id
 |.ret=>.ret
end Go.P
namespace Go.P
open Go.Sim (AV AO Hp iJ upd St IC IX Ex hZ CK Wf)
inductive RC:Bool->PV->AV->Prop
 |v {p:Bool} (x:Value):RC p (.v x) (.v x)
 |is {p:Bool} {e:Nat} {rows:List (List PV)} {rows':List (List AV)} (hl:rows.length=rows'.length)
   (hr:∀(i:Nat) (r:List PV) (r':List AV),rows[i]? =some r->rows'[i]? =some r'->r.length=r'.length)
   (hc:∀(i:Nat) (r:List PV) (r':List AV) (j:Nat) (x:PV) (y:AV),rows[i]? =some r->rows'[i]? =some r'->r[j]? =some x->r'[j]? =some y->RC true x y):RC p (.is e rows) (.is e rows')
 |isn {p:Bool} {e:Nat}:RC p (.is e []) (.v (.slice none 0 0))
 |ip {p:Bool} {cs:List PV} {cs':List AV} (hl:cs.length=cs'.length) (hc:∀(j:Nat) (x:PV) (y:AV),cs[j]? =some x->cs'[j]? =some y->RC false x y):RC p (.ip cs) (.ip cs')
 |im {es:List (PV×PV)} {es':List (AV×AV)} (hl:es.length=es'.length)
   (hk:∀(j:Nat) (x:PV×PV) (y:AV×AV),es[j]? =some x->es'[j]? =some y->RC false x.1 y.1)
   (hv:∀(j:Nat) (x:PV×PV) (y:AV×AV),es[j]? =some x->es'[j]? =some y->RC false x.2 y.2):RC false (.im es) (.im es')
 |fn {f:FuncId} {a b:List PV} {a' b':List AV} (h1:a.length=a'.length) (h2:b.length=b'.length)
   (v1:∀(j:Nat) (x:PV) (y:AV),a[j]? =some x->a'[j]? =some y->RC false x y) (v2:∀(j:Nat) (x:PV) (y:AV),b[j]? =some x->b'[j]? =some y->RC false x y):RC false (.fn f a b) (.fn (.func f) a' b')
 |agg {cs:List PV} {cs':List AV} (hl:cs.length=cs'.length) (hc:∀(j:Nat) (x:PV) (y:AV),cs[j]? =some x->cs'[j]? =some y->RC false x y):RC false (.agg cs) (.agg cs')
 |tup {cs:List PV} {cs':List AV} (hl:cs.length=cs'.length) (hc:∀(j:Nat) (x:PV) (y:AV),cs[j]? =some x->cs'[j]? =some y->RC false x y):RC false (.tup cs) (.tup cs')
def RC.weak {p:Bool} {x:PV} {y:AV} (h:RC p x y):RC false x y:=by
 cases h with
 |v x=>exact .v x
 |is hl hr hc=>exact .is hl hr hc
 |isn=>exact .isn
 |ip hl hc=>exact .ip hl hc
 |im a b c=>exact .im a b c
 |fn a b c d=>exact .fn a b c d
 |agg a b=>exact .agg a b
 |tup a b=>exact .tup a b
def RC.plain {x:PV} {y:AV} (h:RC false x y) (hp:iW x=true):RC true x y:=by
 cases h with
 |v x=>exact .v x
 |is hl hr hc=>exact .is hl hr hc
 |isn=>exact .isn
 |ip hl hc=>exact .ip hl hc
 |_=>simp[iW]at hp
def LR (R:PV->AV->Prop) (xs:aA PV) (ys:aA AV):Prop:=xs.length=ys.length/\∀(j:Nat) (x:PV) (y:AV),xs[j]? =some x->ys[j]? =some y->R x y
section
variable {R:PV->AV->Prop}
def LR.nil:LR R [] []:=⟨rfl,fun j x y h=>by simp at h⟩
def LR.cons {x:PV} {y:AV} {xs:aA PV} {ys:aA AV} (h:R x y) (d:LR R xs ys):LR R (x::xs) (y::ys):=
 ⟨by simp[d.1],fun j a b c hb=>by
  cases j with
  |zero=>simp at c hb;subst c hb;exact h
  |succ j=>simp at c hb;exact d.2 j a b c hb⟩
def LR.head {x:PV} {y:AV} {xs:aA PV} {ys:aA AV} (h:LR R (x::xs) (y::ys)):R x y:=h.2 0 x y rfl rfl
def LR.tail {x:PV} {y:AV} {xs:aA PV} {ys:aA AV} (h:LR R (x::xs) (y::ys)):LR R xs ys:=
 ⟨by simpa using h.1,fun j a b c hb=>h.2 (j+1) a b (by simpa using c) (by simpa using hb)⟩
def LR.inv_nil {ys:aA AV} (h:LR R [] ys):ys=[]:=by
 have:=h.1;cases ys with
 |nil=>rfl
 |cons a as=>simp at this
def LR.inv_cons {x:PV} {xs:aA PV} {ys:aA AV} (h:LR R (x::xs) ys):∃y b,ys=y::b/\R x y/\LR R xs b:=by
 cases ys with
 |nil=>have:=h.1;simp at this
 |cons a as=>exact⟨a,as,rfl,h.head,h.tail⟩
def LR.append {xs xs':aA PV} {ys b:aA AV} (h:LR R xs ys) (h':LR R xs' b):LR R (xs++xs') (ys++b):=by
 induction xs generalizing ys with
 |nil=>rw[h.inv_nil];exact h'
 |cons a as ih=>
  obtain⟨y,c,rfl,h1,h2⟩:=h.inv_cons;exact .cons h1 (ih h2)
def LR.take {xs:aA PV} {ys:aA AV} (h:LR R xs ys) (n:Nat):LR R (xs.take n) (ys.take n):=
 ⟨by simp[h.1],fun j x y a hy=>by
  rw[cD3]at a hy
  split at a
  rename_i b
  rw[bK3 b]at hy
  exact h.2 j x y a hy
  cases a⟩
def LR.drop {xs:aA PV} {ys:aA AV} (h:LR R xs ys) (n:Nat):LR R (xs.drop n) (ys.drop n):=
 ⟨by simp[h.1],fun j x y a hy=>by
  rw[cK3]at a hy
  exact h.2 _ x y a hy⟩
def LR.get {xs:aA PV} {ys:aA AV} (h:LR R xs ys) {j:Nat} {x:PV} (b:xs[j]? =some x):∃y,ys[j]? =some y/\R x y:=by
 have a:j<ys.length:=by rw[<-h.1];exact(bG3.1 b).1
 exact⟨ys[j],by simp[a],h.2 j x _ b (by simp[a])⟩
def LR.mono {R':PV->AV->Prop} {xs:aA PV} {ys:aA AV} (h:LR R xs ys) (c:∀x y,R x y->R' x y):LR R' xs ys:=⟨h.1,fun j x y a b=>c x y (h.2 j x y a b)⟩
def LR.set {xs:aA PV} {ys:aA AV} (h:LR R xs ys) {x:PV} {y:AV} (d:R x y) (n:Nat):LR R (xs.set n x) (ys.set n y):=
 ⟨by simp[h.1],fun j a b c hb=>by
  rw[cA3]at c hb
  split at c
  rename_i e;subst e
  rw[bK3 rfl]at hb
  split at c
  split at hb
  cases c;cases hb;exact d
  cases hb
  cases c
  rename_i e
  rw[bM3 e]at hb
  exact h.2 j a b c hb⟩
def LR.setL {xs xs':aA PV} {ys b:aA AV} (h:LR R xs ys) (h':LR R xs' b) (o:Nat):LR R (Sim.setL xs o xs') (Sim.setL ys o b):=by
 induction xs' generalizing xs ys b o with
 |nil=>rw[h'.inv_nil];exact h
 |cons a as ih=>
  obtain⟨y,c,rfl,h1,h2⟩:=h'.inv_cons;exact ih (h.set h1 o) h2 (o+1)
end
def RR (rows:aA (aA PV)) (rows':aA (aA AV)):Prop:=
 rows.length=rows'.length/\∀(i:Nat) (r:aA PV) (r':aA AV),rows[i]? =some r->rows'[i]? =some r'->LR (RC true) r r'
def RR.is {p:Bool} {e:Nat} {rows:aA (aA PV)} {rows':aA (aA AV)} (h:RR rows rows'):RC p (.is e rows) (.is e rows'):=
 .is h.1 (fun i r r' a b=>(h.2 i r r' a b).1) (fun i r r' j x y a b c d=>(h.2 i r r' a b).2 j x y c d)
def RR.of_is {rows:aA (aA PV)} {rows':aA (aA AV)} (hl:rows.length=rows'.length)
   (hr:∀(i:Nat) (r:aA PV) (r':aA AV),rows[i]? =some r->rows'[i]? =some r'->r.length=r'.length)
   (hc:∀(i:Nat) (r:aA PV) (r':aA AV) (j:Nat) (x:PV) (y:AV),rows[i]? =some r->rows'[i]? =some r'->r[j]? =some x->r'[j]? =some y->RC true x y):RR rows rows':=
 ⟨hl,fun i r r' a b=>⟨hr i r r' a b,fun j x y c d=>hc i r r' j x y a b c d⟩⟩
def RR.nil:RR [] []:=⟨rfl,fun i r r' h=>by simp at h⟩
def RR.cons {r:aA PV} {r':aA AV} {rows:aA (aA PV)} {rows':aA (aA AV)} (h:LR (RC true) r r') (d:RR rows rows'):RR (r::rows) (r'::rows'):=
 ⟨by simp[d.1],fun j a b c hb=>by
  cases j with
  |zero=>simp at c hb;subst c hb;exact h
  |succ j=>simp at c hb;exact d.2 j a b c hb⟩
def RR.get {rows:aA (aA PV)} {rows':aA (aA AV)} (h:RR rows rows') {i:Nat} {r:aA PV} (hr:rows[i]? =some r):∃r',rows'[i]? =some r'/\LR (RC true) r r':=by
 have a:i<rows'.length:=by rw[<-h.1];exact(bG3.1 hr).1
 exact⟨rows'[i],by simp[a],h.2 i r _ hr (by simp[a])⟩
def RR.append {a b:aA (aA PV)} {a' b':aA (aA AV)} (h:RR a a') (k:RR b b'):RR (a++b) (a'++b'):=
 ⟨by simp[h.1,k.1],fun i r r' h1 h2=>by
  rw[dE3]at h1 h2
  rw[<-h.1]at h2
  split at h1
  rename_i hi;rw[bK3 hi]at h2;exact h.2 i r r' h1 h2
  rename_i hi;rw[bM3 hi]at h2;exact k.2 _ r r' h1 h2⟩
def RR.take {a:aA (aA PV)} {a':aA (aA AV)} (h:RR a a') (n:Nat):RR (a.take n) (a'.take n):=
 ⟨by simp[h.1],fun j x y b hy=>by
  rw[cD3]at b hy
  split at b
  rename_i c;rw[bK3 c]at hy;exact h.2 j x y b hy
  cases b⟩
def RR.drop {a:aA (aA PV)} {a':aA (aA AV)} (h:RR a a') (n:Nat):RR (a.drop n) (a'.drop n):=
 ⟨by simp[h.1],fun j x y b hy=>by
  rw[cK3]at b hy
  exact h.2 _ x y b hy⟩
def RR.set {a:aA (aA PV)} {a':aA (aA AV)} (h:RR a a') {x:aA PV} {y:aA AV} (c:LR (RC true) x y) (n:Nat):RR (a.set n x) (a'.set n y):=
 ⟨by simp[h.1],fun j p q b hb=>by
  rw[cA3]at b hb
  split at b
  rename_i e;subst e
  rw[bK3 rfl]at hb
  split at b
  split at hb
  cases b;cases hb;exact c
  cases hb
  cases b
  rename_i e
  rw[bM3 e]at hb
  exact h.2 j p q b hb⟩
def RR.replicate {r:aA PV} {r':aA AV} (h:LR (RC true) r r') (n:Nat):RR (List.replicate n r) (List.replicate n r'):=
 ⟨by simp,fun i x y a hy=>by
  simp only[eD3]at a hy
  split at a
  grind
  cases a⟩
def ER (es:aA (PV×PV)) (es':aA (AV×AV)):Prop:=
 es.length=es'.length/\∀(j:Nat) (x:PV×PV) (y:AV×AV),es[j]? =some x->es'[j]? =some y->RC false x.1 y.1/\RC false x.2 y.2
def ER.im {es:aA (PV×PV)} {es':aA (AV×AV)} (h:ER es es'):RC false (.im es) (.im es'):=.im h.1 (fun j x y a b=>(h.2 j x y a b).1) (fun j x y a b=>(h.2 j x y a b).2)
def RK (x:PV) (y:AV):Prop:=RC true x y\/∃cs cs',x=.agg cs/\y=.agg cs'/\LR (RC true) cs cs'
def RK.rc {x:PV} {y:AV} (h:RK x y):RC false x y:=by
 rcases h with h|⟨cs,cs',rfl,rfl,h⟩
 exact h.weak;exact .agg h.1 fun j x y a b=>(h.2 j x y a b).weak
def EM (es:aA (PV×PV)) (es':aA (AV×AV)):Prop:=
 es.length=es'.length/\∀(j:Nat) (x:PV×PV) (y:AV×AV),es[j]? =some x->es'[j]? =some y->RK x.1 y.1/\RK x.2 y.2
def EM.er {es:aA (PV×PV)} {es':aA (AV×AV)} (h:EM es es'):ER es es':=⟨h.1,fun j x y a b=>⟨(h.2 j x y a b).1.rc,(h.2 j x y a b).2.rc⟩⟩
inductive Pl where
 |nil
 |atp (id ver e len:Nat)
structure Cx where
 f:Nat->Option Pl
 z:Nat->Option AO
 w:Nat->Option (Nat×Nat×Nat)
instance:CoeFun Cx fun _=>Nat->Option Pl:=⟨Cx.f⟩
def Cx.le (C C':Cx):Prop:=(∀k pl,C k=some pl->C' k=some pl)/\∀id o,C.z id=some o->C'.z id=some o
def Cx.le.refl (C:Cx):C.le C:=⟨fun _ _ h=>h,fun _ _ h=>h⟩
def Cx.le.trans {A B C:Cx} (h:A.le B) (k:B.le C):A.le C:=⟨fun a b c=>k.1 a b (h.1 a b c),fun a b c=>k.2 a b (h.2 a b c)⟩
def RZ (z:Nat->aB AO):Nat->PV->AV->Prop
 |0,x,y=>RC true x y
 |d+1,x,y=>RC true x y\/∃e rows id ver ty els,x=.is e rows/\y=.sl e id ver 0 rows.length none/\z id=some (.arr false ty e ver els)/\rows.length<=els.length/\
   ∀(i:Nat) (r:aA PV) (r':aA AV),rows[i]? =some r->els[i]? =some r'->LR (RZ z d) r r'
def RZ.of {z:Nat->aB AO} {d:Nat} {x:PV} {y:AV} (h:RC true x y):RZ z d x y:=by
 cases d with
 |zero=>exact h
 |succ d=>exact .inl h
def RZ.up1 {z:Nat->aB AO}:∀{d:Nat} {x:PV} {y:AV},RZ z d x y->RZ z (d+1) x y
 |0,_,_,h=>.inl h
 |d+1,x,y,h=>by
  rcases h with h|⟨e,rows,id,ver,ty,els,h1,h2,h3,h4,h5⟩
  exact .inl h
  exact .inr ⟨e,rows,id,ver,ty,els,h1,h2,h3,h4,fun i r r' a b=>(h5 i r r' a b).mono fun x y h=>RZ.up1 h⟩
def RZ.up {z:Nat->aB AO} {d a:Nat} (hd:d<=a) {x:PV} {y:AV} (h:RZ z d x y):RZ z a x y:=by
 induction hd with
 |refl=>exact h
 |step _ ih=>exact ih.up1
def RZ.mono {z f:Nat->aB AO} (c:∀id o,z id=some o->f id=some o):∀{d:Nat} {x:PV} {y:AV},RZ z d x y->RZ f d x y
 |0,_,_,h=>h
 |d+1,x,y,h=>by
  rcases h with h|⟨e,rows,id,ver,ty,els,h1,h2,h3,h4,h5⟩
  exact .inl h
  exact .inr ⟨e,rows,id,ver,ty,els,h1,h2,c _ _ h3,h4,fun i r r' a b=>(h5 i r r' a b).mono fun x y h=>RZ.mono c h⟩
def Iy (z:Nat->aB AO) (d:Nat) (rows:aA (aA PV)) (rows':aA (aA AV)):Prop:=
 rows.length=rows'.length/\∀(i:Nat) (r:aA PV) (r':aA AV),rows[i]? =some r->rows'[i]? =some r'->LR (RZ z d) r r'
def RR.z {z:Nat->aB AO} {d:Nat} {rows:aA (aA PV)} {rows':aA (aA AV)} (h:RR rows rows'):Iy z d rows rows':=⟨h.1,fun i r r' a b=>(h.2 i r r' a b).mono fun _ _ h=>RZ.of h⟩
def Iy.mono {z c:Nat->aB AO} (e:∀id o,z id=some o->c id=some o) {d:Nat} {rows:aA (aA PV)} {rows':aA (aA AV)} (h:Iy z d rows rows'):Iy c d rows rows':=⟨h.1,fun i r r' a b=>(h.2 i r r' a b).mono fun _ _ h=>RZ.mono e h⟩
def Iy.up {z:Nat->aB AO} {d c:Nat} (hd:d<=c) {rows:aA (aA PV)} {rows':aA (aA AV)} (h:Iy z d rows rows'):Iy z c rows rows':=⟨h.1,fun i r r' a b=>(h.2 i r r' a b).mono fun _ _ h=>RZ.up hd h⟩
def Iy.nil {z:Nat->aB AO} {d:Nat}:Iy z d [] []:=⟨rfl,fun i r r' h=>by simp at h⟩
def Iy.append {z:Nat->aB AO} {d:Nat} {a b:aA (aA PV)} {a' b':aA (aA AV)} (h:Iy z d a a') (k:Iy z d b b'):Iy z d (a++b) (a'++b'):=
 ⟨by simp[h.1,k.1],fun i r r' h1 h2=>by
  rw[dE3]at h1 h2
  rw[<-h.1]at h2
  split at h1
  rename_i hi;rw[bK3 hi]at h2;exact h.2 i r r' h1 h2
  rename_i hi;rw[bM3 hi]at h2;exact k.2 _ r r' h1 h2⟩
def Nml (c:AV):Prop:=Sim.nameOK (fun _=>false) 1 c=true
def RC.nml {x:PV} {y:AV} (h:RC true x y):Nml y:=by cases h<;>rfl
def SL (n:Nat) (els:aA (aA AV)):Prop:=∀(i:Nat) (row:aA AV),n<=i->els[i]? =some row->∀c∈row,Nml c
def SL.exact {n:Nat} {els:aA (aA AV)} (h:els.length<=n):SL n els:=fun i row hi hr=>by grind
def LS.set {rows:aA (aA PV)} {els:aA (aA AV)} (h:rows.length<=els.length/\SL rows.length els) {i:Nat} {x row:aA PV} {r:aA AV} (hi:rows[i]? =some row):(rows.set i x).length<=(els.set i r).length/\SL (rows.set i x).length (els.set i r):=by
 have b:=(bG3.1 hi).1;rw[eL3,eL3];refine⟨h.1,fun j row a hr=>?_⟩;rw[bT3 (by omega)]at hr;exact h.2 j row a hr
def SL.cut {rows:aA (aA PV)} {els:aA (aA AV)} (hr:RR rows (els.take rows.length)) (h:SL rows.length els) (n:Nat):SL n els:=fun i row _ a c hc=>by
 by_cases hi:i<rows.length
 have h2:(els.take rows.length)[i]? =some row:=by rw[cD3,bK3 hi];exact a
 obtain⟨j,d⟩:=bX3.1 hc
 have hl:=hr.2 i rows[i] row (by simp) h2
 have b:j<(rows[i]).length:=by rw[hl.1];exact(bG3.1 d).1
 exact(hl.2 j _ c (bY3 b) d).nml
 exact h i row (by omega) a c hc
def gL (L:Nat->aB AO) (w:Nat->aB (Nat×Nat×Nat)) (lim nS:Nat):Nat->Nat×Nat×Nat->TD->PV->AV->Prop
 |0,_,_,_,_=>False
 |d+1,sl,.nd ty e ks,x,y=>∃rows,x=.is e rows/\((rows=[]/\y=.v (.slice none 0 0))\/
   ∃id ver els,y=.sl e id ver 0 rows.length none/\w id=some sl/\lim<=id/\id<nS/\iQ ty=false/\L id=some (.arr false ty e ver els)/\(rows.length<=els.length/\SL rows.length els)/\
    ∀(i:Nat) (r:aA PV) (r':aA AV),rows[i]? =some r->els[i]? =some r'->r.length=r'.length/\∀(j:Nat) (a:PV) (b:AV),r[j]? =some a->r'[j]? =some b->match iH ks j with
     |none=>RC true a b
     |some t=>gL L w lim nS d (id,i,j) t a b)
def Cd (hs:aA (Nat×Nat×PV)) (i j:Nat):Prop:=∃x,(j,i,x)∈hs
inductive RV (C:Cx):PV->AV->Prop
 |cl {x:PV} {y:AV} (h:RC false x y):RV C x y
 |undef {y:AV}:RV C .undef y
 |ref {k o id ver e len:Nat} (h:C k=some (.atp id ver e len)):RV C (.ref k o) (.ptr id ver 0 o)
 |own {k id ver e len:Nat} (h:C k=some (.atp id ver e len)):RV C (.own k) (.sl e id ver 0 len none)
 |ownn {k:Nat} {y:AV} (h:C k=some .nil) (hy:y=.v (.slice none 0 0)):RV C (.own k) y
 |el {k i o id ver e len:Nat} (h:C k=some (.atp id ver e len)):RV C (.el k i o) (.ptr id ver i o)
 |map {k id ver e len:Nat} (h:C k=some (.atp id ver e len)):RV C (.map k) (.map id)
 |fn {f:FuncId} {a b:List PV} {a' b':List AV} (h1:a.length=a'.length) (h2:b.length=b'.length)
   (v1:∀(j:Nat) (x:PV) (y:AV),a[j]? =some x->a'[j]? =some y->RV C x y) (v2:∀(j:Nat) (x:PV) (y:AV),b[j]? =some x->b'[j]? =some y->RV C x y):RV C (.fn f a b) (.fn (.func f) a' b')
 |yld {k id ver e len:Nat} (h:C k=some (.atp id ver e len)):RV C (.yld k) (.fn (.yield id) [] [])
 |agg {cs:List PV} {cs':List AV} (hl:cs.length=cs'.length) (hc:∀(j:Nat) (x:PV) (y:AV),cs[j]? =some x->cs'[j]? =some y->RV C x y):RV C (.agg cs) (.agg cs')
 |tup {cs:List PV} {cs':List AV} (hl:cs.length=cs'.length) (hc:∀(j:Nat) (x:PV) (y:AV),cs[j]? =some x->cs'[j]? =some y->RV C x y):RV C (.tup cs) (.tup cs')
 |zs {d e:Nat} {rows:List (List PV)} {y:AV} (h:RZ C.z d (.is e rows) y):RV C (.zs d e rows) y
 |zm {es:List (PV×PV)} {id:Nat} {es':List (AV×AV)} (h:C.z id=some (.map es')) (he:EM es es'):RV C (.zm es) (.map id)
 |zm0:RV C (.zm []) (.v (.map none))
def RV.mono {C C':Cx} (a:C.le C') {x:PV} {y:AV} (h:RV C x y):RV C' x y:=by
 induction h with
 |cl h=>exact .cl h
 |undef=>exact .undef
 |ref h=>exact .ref (a.1 _ _ h)
 |own h=>exact .own (a.1 _ _ h)
 |ownn h hy=>exact .ownn (a.1 _ _ h) hy
 |el h=>exact .el (a.1 _ _ h)
 |map h=>exact .map (a.1 _ _ h)
 |yld h=>exact .yld (a.1 _ _ h)
 |fn h1 h2 v1 v2 i1 i2=>exact .fn h1 h2 i1 i2
 |agg hl hc ih=>exact .agg hl ih
 |tup hl hc ih=>exact .tup hl ih
 |zs h=>exact .zs (RZ.mono a.2 h)
 |zm h he=>exact .zm (a.2 _ _ h) he
 |zm0=>exact .zm0
def fF (C:Cx) (e:gG) (t:aA AV):Prop:=∀i v,gD e i=some v->∃y,t[i]? =some y/\RV C v y
def StR:Bool->aB Ex->LoopState->aB IC->Prop
 |false,none,st,pend=>st=.ready/\pend=none
 |true,none,st,pend=>st=.busy
 |false,some (.exit i),st,pend=>st=.done/\pend=some (.exit i)
 |false,some .ret,st,pend=>st=.done/\pend=some .ret
 |_,_,_,_=>False
def TC (C:Cx) (L:Nat->aB AO) (lim nS d id:Nat) (ks:aA (Nat×TD)) (hs:aA (Nat×Nat×PV)) (i j:Nat) (a:PV) (b:AV):Prop:=match iH ks j with
 |none=>RC true a b
 |some t=>(Cd hs i j/\∀x,(j,i,x)∈hs->RV C x b)\/(¬Cd hs i j/\gL L C.w lim nS d (id,i,j) t a b)
def gX (C:Cx) (L:Nat->aB AO) (lim nS:Nat):dX->Pl->Prop
 |.box cells,.atp id ver _ _=>lim<=id/\id<nS/\∃ty esz row,L id=some (.arr true ty esz ver [row])/\LR (RV C) cells row
 |.lst _ e _ rows,.nil=>rows=[]
 |.lst ty e g rows,.atp id ver e' len=>lim<=id/\id<nS/\e'=e/\len=rows.length/\∃els,L id=some (.arr false (Hj ty) e ver els)/\RR rows (els.take rows.length)/\(rows.length<=els.length/\SL rows.length els)/\(g=false->els.length=rows.length)
 |.lz _ _ _ rows,.nil=>rows=[]
 |.lz ty e dp rows,.atp id ver e' len=>lim<=id/\id<nS/\e'=e/\len=rows.length/\iQ ty=false/\∃els,L id=some (.arr false ty e ver els)/\Iy C.z dp rows els
 |.mp es,.atp id _ _ _=>lim<=id/\id<nS/\∃es',L id=some (.map es')/\EM es es'
 |.tr _ rows hs,.nil=>rows=[]/\hs=[]
 |.tr (.nd ty e ks) rows hs,.atp id ver e' len=>lim<=id/\id<nS/\e'=e/\len=rows.length/\iQ ty=false/\∃els d,L id=some (.arr false ty e ver els)/\(rows.length<=els.length/\SL rows.length els)/\
   ∀(i:Nat) (r:aA PV) (r':aA AV),rows[i]? =some r->els[i]? =some r'->r.length=r'.length/\∀(j:Nat) (a:PV) (b:AV),r[j]? =some a->r'[j]? =some b->TC C L lim nS d id ks hs i j a b
 |.fl fs,.atp id ver e len=>lim<=id/\id<nS/\e=1/\len=fs.length/\∃ty els,L id=some (.arr false ty 1 ver els)/\els.length=fs.length/\∀(i:Nat) (f:PV) (row:aA AV),fs[i]? =some f->els[i]? =some row->LR (RV C) [f] row
 |.loop N e ps a b busy fin,.atp id _ _ _=>lim<=id/\id<nS/\∃st pend tmps,L id=some (.loop st pend tmps ps (mT a) (mT b))/\tmps.length=N/\fF C e tmps/\StR busy fin st pend
 |_,_=>False
def nbO:AO->Bool
 |.arr bx _ _ _ _=> !bx
 |.map _=>true
 |_=>false
structure HR (C:Cx) (h:aS) (L:Nat->Option AO) (lim nS:Nat):Prop where
 ob:∀k po,aK h k=some po->∃pl,C k=some pl/\gX C L lim nS po pl
 inj:∀k k' id v e l v' e' l',aK h k≠none->aK h k'≠none->C k=some (.atp id v e l)->C k'=some (.atp id v' e' l')->k=k'
 zr:∀id o,C.z id=some o->L id=some o/\id<nS/\(∀k v e l,aK h k≠none->C k≠some (.atp id v e l))/\nbO o=true
 wn:∀k id v e l,aK h k≠none->C k=some (.atp id v e l)->C.w id=none
 wb:∀id sl,C.w id=some sl->id<nS/\sl.1<nS
 wz:∀id o,C.z id=some o->C.w id=none
def Own (C:Cx) (h:aS) (id:Nat):Prop:=(∃k v e l,aK h k≠none/\C k=some (.atp id v e l))\/C.w id≠none
def iB:aA iJ->aA iJ->Prop
 |[],[]=>True
 |.mark::a,.mark::b=>iB a b
 |.ob i _::a,.ob j _::b=>i=j/\iB a b
 |_,_=>False
def Sk (h h':aA iJ) (n:Nat):Prop:=∃pre r,h'=pre++r/\iB r h/\∀e∈pre,∃i o,e=.ob i o/\n<=i
def iB.refl:∀h,iB h h
 |[]=>trivial
 |.mark::a=>iB.refl a
 |.ob _ _::a=>⟨rfl,iB.refl a⟩
def iB.trans:∀{a b c:aA iJ},iB a b->iB b c->iB a c
 |[],[],[],_,_=>trivial
 |.mark::a,.mark::b,.mark::c,h,k=>iB.trans (a:=a) h k
 |.ob _ _::a,.ob _ _::b,.ob _ _::c,h,k=>⟨h.1.trans k.1,iB.trans h.2 k.2⟩
def iB.upd:∀(h:aA iJ) (id:Nat) (o:AO),iB (upd h id o) h
 |[],_,_=>trivial
 |.mark::a,id,o=>iB.upd a id o
 |.ob i o'::a,id,o=>by
  simp only[Sim.upd]
  split
  exact⟨rfl,.refl a⟩
  exact⟨rfl,iB.upd a id o⟩
def iB.split:∀{x pre r:aA iJ},iB x (pre++r)->∃p q,x=p++q/\iB p pre/\iB q r
 |x,[],r,h=>⟨[],x,rfl,trivial,h⟩
 |.mark::x,.mark::pre,r,h=>by
  obtain⟨p,q,rfl,h1,h2⟩:=iB.split (x:=x) (pre:=pre) (r:=r) h
  exact⟨.mark::p,q,rfl,h1,h2⟩
 |.ob i o::x,.ob j o'::pre,r,h=>by
  obtain⟨p,q,rfl,h1,h2⟩:=iB.split (x:=x) (pre:=pre) (r:=r) h.2
  exact⟨.ob i o::p,q,rfl,⟨h.1,h1⟩,h2⟩
 |[],.mark::_,_,h=>h.elim
 |[],.ob _ _::_,_,h=>h.elim
 |.mark::_,.ob _ _::_,_,h=>h.elim
 |.ob _ _::_,.mark::_,_,h=>h.elim
def iB.obs {n:Nat}:∀{p pre:aA iJ},iB p pre->(∀e∈pre,∃i o,e=.ob i o/\n<=i)->∀e∈p,∃i o,e=.ob i o/\n<=i
 |[],[],_,_,e,he=>by simp at he
 |.mark::p,.mark::pre,h,hp,e,he=>by simp_all
 |.ob i o::p,.ob j o'::pre,h,hp,e,he=>by
  rcases bR3.1 he with rfl|he
  obtain⟨b,a,k,hk⟩:=hp (.ob j o') (by simp)
  cases k
  exact⟨i,o,rfl,by rw[h.1];exact hk⟩
  exact iB.obs h.2 (fun e he=>hp e (by simp[he])) e he
def Sk.refl (h:aA iJ) (n:Nat):Sk h h n:=⟨[],h,rfl,.refl h,fun e he=>by simp at he⟩
def Sk.trans {a b c:aA iJ} {n m:Nat} (h:Sk a b n) (k:Sk b c m) (hn:n<=m):Sk a c n:=by
 obtain⟨p,r,rfl,h1,h2⟩:=h;obtain⟨q,r',rfl,f,g⟩:=k;obtain⟨x,y,rfl,d,e2⟩:=f.split;refine⟨q++x,y,by simp,e2.trans h1,fun e he=>?_⟩;rcases cL3.1 he with he|he
 grind
 exact d.obs h2 e he
def Sk.upd (h:aA iJ) (id:Nat) (o:AO) (n:Nat):Sk h (upd h id o) n:=⟨[],_,rfl,.upd h id o,fun e he=>by simp at he⟩
def Sk.new (h:aA iJ) (o:AO) (n:Nat):Sk h (.ob n o::h) n:=⟨[.ob n o],h,rfl,.refl h,fun e he=>by simp at he;exact⟨n,o,he,bI3 _⟩⟩
def Fm {n:Nat}:∀{pre r:aA iJ} {id:Nat},(∀e∈pre,∃i o,e=.ob i o/\n<=i)->id<n->Sim.look (pre++r) id=Sim.look r id
 |[],r,id,_,_=>rfl
 |e::pre,r,id,h,hid=>by
  obtain⟨i,o,rfl,hi⟩:=h e (by simp)
  simp only[dQ3,Sim.look]
  rw[bM3 (by omega)]
  exact Fm (fun e he=>h e (by simp[he])) hid
def Vo {n:Nat}:∀{pre r:aA iJ},(∀e∈pre,∃i o,e=.ob i o/\n<=i)->∃a,Sim.popMark (pre++.mark::r)=a++r/\∀e∈a,∃i o,e=.ob i o/\n<=i
 |[],r,_=>⟨[],rfl,fun e he=>by simp at he⟩
 |e::pre,r,h=>by
  obtain⟨i,o,rfl,hi⟩:=h e (by simp)
  obtain⟨a,h1,h2⟩:=Vo (r:=r) (fun e he=>h e (cY3 _ he))
  have keep:∃b,iJ.ob i o::Sim.popMark (pre++.mark::r)=b++r/\∀e∈b,∃i o,e=.ob i o/\n<=i:=
   ⟨.ob i o::a,by rw[h1];rfl,fun e he=>by
    rcases bR3.1 he with rfl|he
    exact⟨i,o,rfl,hi⟩
    exact h2 e he⟩
  simp only[dQ3,Sim.popMark]
  split
  exact⟨a,h1,h2⟩
  exact keep
def Sk.pop {h h':aA iJ} {n:Nat} (hs:Sk (.mark::h) h' n):Sk h (Sim.popMark h') n/\∀id,id<n->Sim.look (Sim.popMark h') id=Sim.look h' id:=by
 obtain⟨pre,r,rfl,h1,h2⟩:=hs
 match r,h1 with
 |.mark::r,h1=>
  obtain⟨a,c,b⟩:=Vo (r:=r) h2;rw[c];refine⟨⟨a,r,rfl,h1,b⟩,fun id hid=>?_⟩;rw[Fm b hid,Fm h2 hid];rfl
end Go.P
namespace Go.P
open Go.Sim (AV AO Hp iJ upd St IC IX Ex hZ CK Wf)
section
variable {R:Type}
def Iz (x:Value) (K:Value->aB R):Sw x K=K x:=by cases x<;>rfl
def dL1 (x:PV) (K:PV->aB R):fPV x K=K x:=by
 cases x<;>simp[fPV,Iz]
def sA:∀(xs:aA PV) (K:aA PV->aB R),wC xs K=K xs
 |[],K=>rfl
 |x::xs,K=>by simp[wC,dL1,sA xs]
def sQ1:∀(xs:aA PV) (K:aA PV->aB R),fV.fT xs K=K xs
 |[],K=>rfl
 |x::xs,K=>by
  have ih:=fun K=>sQ1 xs (K:aA PV->aB R)
  cases x<;>simp[fV.fT,dL1,sA,ih]
def Pa (x:PV) (K:PV->aB R):fV x K=K x:=by
 cases x<;>simp[fV,Iz,sA,sQ1]
def bO {a b:Nat}:Nat.beq a b=decide (a=b):=by
 rw[Bool.eq_iff_iff];simp[Nat.beq_eq]
def kS:∀(e:gG) (i:Nat) (K:PV->aB R),vG e i K=(gD e i).bind K
 |[],_,_=>rfl
 |(j,v)::r,i,K=>by
  simp only[vG,gD,bO]
  by_cases h:j=i<;>simp[h,kS r i K]
def iK:∀(i:Nat) (js:aA Nat),wD i js=js.contains i
 |_,[]=>rfl
 |i,j::js=>by
  simp only[wD,bO,List.contains_cons,iK i js]
  by_cases h:i=j<;>simp[h]
def edel:gG->aA Nat->gG
 |[],_=>[]
 |(j,v)::r,is=>if j∈is then edel r is else(j,v)::edel r is
def gO:∀(e:gG) (is:aA Nat) (K:gG->aB R),kT e is K=K (edel e is)
 |[],_,_=>rfl
 |(j,v)::r,is,K=>by
  simp only[kT,iK,edel]
  by_cases h:j∈is
  simp[h,gO r is K]
  simp[h,gO r is]
def zZ:∀(e:gG) (is:aA Nat) (i:Nat),gD (edel e is) i=if i∈is then none else gD e i
 |[],is,i=>by simp[edel,gD]
 |(j,v)::r,is,i=>by
  have ih:=zZ r is i
  simp only[edel]
  by_cases h:j∈is
  rw[bK3 h,ih]
  by_cases h2:j=i
  subst h2;simp[h]
  simp[gD,h2]
  rw[bM3 h]
  by_cases h2:j=i
  subst h2;simp[gD,h]
  simp only[gD,bM3 h2,ih]
def evs (e:gG):aA PX->aB (aA PV)
 |[]=>some []
 |.t i::xs=>(gD e i).bind fun v=>(evs e xs).bind fun vs=>some (v::vs)
 |.c x::xs=>(evs e xs).bind fun vs=>some (x::vs)
def kJ (e:gG):∀(xs:aA PX) (K:aA PV->aB R),qV e xs K=(evs e xs).bind K
 |[],K=>rfl
 |.t i::xs,K=>by
  simp only[qV,kS,evs,fC3]
  congr 1
  funext v
  rw[kJ e xs]
  simp[fC3]
 |.c x::xs,K=>by
  simp only[qV,evs,fC3]
  rw[kJ e xs]
  simp[fC3]
def sB:∀(n:Nat) (l:aA PV) (K:aA PV->aB R) (r:R),tT n l K=some r->n<=l.length/\K (l.take n)=some r
 |0,l,K,r,h=>⟨cQ3 _,by simpa[tT]using h⟩
 |n+1,[],K,r,h=>by simp[tT]at h
 |n+1,a::as,K,r,h=>by
  simp only[tT]at h
  obtain⟨h1,h2⟩:=sB n as _ r h
  exact⟨by simp;omega,by simpa using h2⟩
def gP:∀(n:Nat) (l:aA PV) (K:aA PV->aB R) (r:R),kR n l K=some r->n<=l.length/\K (l.drop n)=some r
 |0,l,K,r,h=>⟨cQ3 _,by simpa[kR]using h⟩
 |n+1,[],K,r,h=>by simp[kR]at h
 |n+1,a::as,K,r,h=>by
  simp only[kR]at h
  obtain⟨h1,h2⟩:=gP n as _ r h
  exact⟨by simp;omega,by simpa using h2⟩
def rA {α:Type} (a:α):∀(cs as:aA α) (n:Nat),Sim.setL (a::as) (n+1) cs=a::Sim.setL as n cs
 |[],as,n=>rfl
 |c::cs,as,n=>by simp only[Sim.setL,List.set_cons_succ];exact rA a cs _ _
def mD:∀(l:aA PV) (o:Nat) (cs:aA PV) (K:aA PV->aB R) (r:R),wE l o cs K=some r->o+cs.length<=l.length/\K (Sim.setL l o cs)=some r
 |l,0,[],K,r,h=>⟨by simp,by simpa[wE,Sim.setL]using h⟩
 |[],0,c::cs,K,r,h=>by simp[wE]at h
 |[],n+1,cs,K,r,h=>by simp[wE]at h
 |a::as,0,c::cs,K,r,h=>by
  simp only[wE]at h
  obtain⟨h1,h2⟩:=mD as 0 cs _ r h
  refine⟨by simp;omega,?_⟩
  simp only[Sim.setL,List.set_cons_zero]
  rw[rA]
  exact h2
 |a::as,n+1,cs,K,r,h=>by
  simp only[wE]at h
  obtain⟨h1,h2⟩:=mD as n cs _ r h
  exact⟨by simp;omega,by rw[rA];exact h2⟩
def iN:∀(h:aS) (k:Nat) (K:dX->aB R),hK h k K=(aK h k).bind K
 |[],_,_=>rfl
 |(j,v)::r,i,K=>by
  simp only[hK,aK,bO]
  by_cases h:j=i<;>simp[h,iN r i K]
def cZ:aS->Nat->dX->aS
 |[],_,_=>[]
 |(j,v)::r,i,o=>if j=i then(j,o)::r else(j,v)::cZ r i o
def eF:∀(h:aS) (k:Nat) (o:dX) (K:aS->aB R) (r:R),iT h k o K=some r->K (cZ h k o)=some r
 |[],_,_,_,_,h=>by simp[iT]at h
 |(j,v)::t,i,o,K,r,h=>by
  simp only[iT,bO]at h
  by_cases e:j=i
  simp only[e,dD3,bS3]at h
  simp only[cZ,e,cF3];exact h
  simp only[e,dW3,cB3]at h
  simp only[cZ,bM3 e]
  exact eF t i o _ r h
def eN:∀(h:aS) (k:Nat) (o:dX) (j:Nat),aK (cZ h k o) j=if j=k/\(aK h k).isSome then some o else aK h j
 |[],k,o,j=>by simp[cZ,aK]
 |(i,v)::r,k,o,j=>by
  have ih:=eN r k o j
  by_cases h1:i=k
  subst h1
  simp only[cZ,cF3,aK]
  by_cases h2:i=j
  subst h2;simp
  grind
  simp only[cZ,bM3 h1,aK]
  by_cases h2:i=j
  subst h2;simp[h1]
  grind
def iL:PV->aB (aA PV)
 |.agg cs=>some cs
 |.tup _=>none
 |.undef=>none
 |x=>some [x]
def mE (x:PV) (K:aA PV->aB R):nG x K=(iL x).bind K:=by cases x<;>rfl
def pJ {C:Cx} {x:PV} {y:AV} {cs:aA PV} (h:RV C x y) (hc:iL x=some cs):∃cs',y.cells=some cs'/\LR (RV C) cs cs':=by
 have one:∀{z:PV} {w:AV},RV C z w->(∀l,w≠.agg l)->(∀l,w≠.tup l)->cs=[z]->∃cs',w.cells=some cs'/\LR (RV C) cs cs':=by
  intro z w f h1 h2 e;subst e;refine⟨[w],?_,.cons f .nil⟩;cases w<;>simp_all[AV.cells]
 cases h with
 |cl h=>
  cases h with
  |agg hl hc'=>simp[iL]at hc;subst hc;exact⟨_,rfl,hl,fun j x y a b=>.cl (hc' j x y a b)⟩
  |tup hl hc'=>simp[iL]at hc
  |v x=>exact one (.cl (.v x)) (by intro l e;cases e) (by intro l e;cases e) (by simpa[iL]using hc.symm)
  |is a b c=>exact one (.cl (.is a b c)) (by intro l e;cases e) (by intro l e;cases e) (by simpa[iL]using hc.symm)
  |isn=>exact one (.cl .isn) (by intro l e;cases e) (by intro l e;cases e) (by simpa[iL]using hc.symm)
  |ip a b=>exact one (.cl (.ip a b)) (by intro l e;cases e) (by intro l e;cases e) (by simpa[iL]using hc.symm)
  |im a b c=>exact one (.cl (.im a b c)) (by intro l e;cases e) (by intro l e;cases e) (by simpa[iL]using hc.symm)
  |fn a b c d=>exact one (.cl (.fn a b c d)) (by intro l e;cases e) (by intro l e;cases e) (by simpa[iL]using hc.symm)
 |undef=>simp[iL]at hc
 |agg hl hc'=>simp[iL]at hc;subst hc;exact⟨_,rfl,hl,hc'⟩
 |tup hl hc'=>simp[iL]at hc
 |ref h=>exact one (.ref h) (by intro l e;cases e) (by intro l e;cases e) (by simpa[iL]using hc.symm)
 |own h=>exact one (.own h) (by intro l e;cases e) (by intro l e;cases e) (by simpa[iL]using hc.symm)
 |ownn h hy=>subst hy;exact one (.ownn h rfl) (by intro l e;cases e) (by intro l e;cases e) (by simpa[iL]using hc.symm)
 |el h=>exact one (.el h) (by intro l e;cases e) (by intro l e;cases e) (by simpa[iL]using hc.symm)
 |map h=>exact one (.map h) (by intro l e;cases e) (by intro l e;cases e) (by simpa[iL]using hc.symm)
 |yld h=>exact one (.yld h) (by intro l e;cases e) (by intro l e;cases e) (by simpa[iL]using hc.symm)
 |fn a b c d=>exact one (.fn a b c d) (by intro l e;cases e) (by intro l e;cases e) (by simpa[iL]using hc.symm)
 |@zs d e rows y h=>
  refine one (.zs h) ?_ ?_ (by simpa[iL]using hc.symm);intro l e;subst e;cases d with
  |zero=>cases h
  |succ d=>rcases h with h|⟨_,_,_,_,_,_,_,h,_⟩<;>cases h
  intro l e;subst e;cases d with
  |zero=>cases h
  |succ d=>rcases h with h|⟨_,_,_,_,_,_,_,h,_⟩<;>cases h
 |zm h he=>exact one (.zm h he) (by intro l e;cases e) (by intro l e;cases e) (by simpa[iL]using hc.symm)
 |zm0=>exact one .zm0 (by intro l e;cases e) (by intro l e;cases e) (by simpa[iL]using hc.symm)
def Le (a b:IntKind):kEq a b=decide (a=b):=by cases a<;>cases b<;>rfl
def LR.zero {C:Cx} (zero:aA Value):LR (RV C) (zero.map .v) (Sim.zeroRow zero):=by
 unfold Sim.zeroRow
 induction zero with
 |nil=>exact .nil
 |cons a as ih=>exact .cons (.cl (.v a)) ih
def SL.zero {n m:Nat} (zero:aA Value):SL n (List.replicate m (Sim.zeroRow zero)):=fun i row _ hr c hc=>by
 rw[eD3]at hr
 split at hr
 cases hr
 unfold Sim.zeroRow at hc
 obtain⟨x,_,rfl⟩:=eM3.1 hc
 rfl
 cases hr
def LR.zeroP (zero:aA Value):LR (RC true) (zero.map .v) (Sim.zeroRow zero):=by
 unfold Sim.zeroRow
 induction zero with
 |nil=>exact .nil
 |cons a as ih=>exact .cons (.v a) ih
def RV.plain {C:Cx} {x:PV} {y:AV} (h:RV C x y) (hp:iW x=true):RC true x y:=by
 cases h with
 |cl h=>exact h.plain hp
 |_=>simp[iW]at hp
def LR.plain {C:Cx} {xs:aA PV} {ys:aA AV} (h:LR (RV C) xs ys) (hp:xs.all iW=true):LR (RC true) xs ys:=
 ⟨h.1,fun j x y a b=>(h.2 j x y a b).plain (bJ3.1 hp x (bO3 a))⟩
def xZ (e:Nat):∀(xs:aA PV) (K:aA (aA PV)->aB R) (r:R),xS e xs K=some r->∃rows,K rows=some r/\rows.length=xs.length/\
  ∀(i:Nat) (x:PV),xs[i]? =some x->∃cs,iL x=some cs/\cs.length=e/\cs.all iW=true/\rows[i]? =some cs
 |[],K,r,h=>⟨[],h,rfl,fun i x d=>by simp at d⟩
 |x::xs,K,r,h=>by
  simp only[xS,mE,bD3]at h
  obtain⟨cs,a,h⟩:=h
  by_cases hc:(Nat.beq cs.length e&&cs.all iW)=true
  rw[hc,bS3]at h
  simp only[bF3,bO,bN3]at hc
  obtain⟨rows,h1,h2,b⟩:=xZ e xs _ r h
  refine⟨cs::rows,h1,by simp[h2],fun i y hy=>?_⟩
  cases i with
  |zero=>simp at hy;subst hy;exact⟨cs,a,hc.1,hc.2,rfl⟩
  |succ i=>simp at hy;obtain⟨c,f,g,j,k⟩:=b i y hy;exact⟨c,f,g,j,by simpa using k⟩
  grind
def Aa:∀(i:Nat) (js:aA Nat),Kz i js=true->js=List.range' i js.length
 |_,[],_=>rfl
 |i,j::js,h=>by
  simp only[Kz,bO]at h
  by_cases e:i=j
  simp only[e,dD3,bS3]at h
  subst e
  rw[cM3,List.range'_succ]
  congr 1
  exact Aa _ js h
  simp[e]at h
end
end Go.P
namespace Go.P
open Go.Sim (AV AO Hp iJ upd St IC IX Ex hZ CK Wf Out doOp)
structure dI (C:Cx) (n:Nat) (h:aS) (lim:Nat) (s:Hp):Prop where
 hr:HR C h (Sim.look s.h) lim s.n
 dom:∀k pl,C k=some pl->k<n
 wf:Wf s.h s.n
 lim:lim<=s.n
def iE:dX->Bool
 |.lst ty _ _ _=>iQ ty
 |.lz .. =>false
 |.tr .. =>false
 |_=>true
structure Fr (C:Cx) (h:aS) (s:Hp) (C':Cx) (h':aS) (s':Hp):Prop where
 sk:Sk s.h s'.h s.n
 n:s.n<=s'.n
 keep:∀id,id<s.n->¬Own C h id->Sim.look s'.h id=Sim.look s.h id
 own:∀id,id<s.n->Own C' h' id->Own C h id
 kd:∀k o,aK h k=some o->∃o',aK h' k=some o'/\(iE o'=true->iE o=true/\C' k=C k)
 zl:∀id o,C.z id=some o->C'.z id=some o
 zn:∀id,id<s.n->C'.z id≠none->C.z id≠none\/Own C h id
def Fr.refl (C:Cx) (h:aS) (s:Hp):Fr C h s C h s:=⟨.refl _ _,bI3 _,fun _ _ _=>rfl,fun _ _ h=>h,fun k o h=>⟨o,h,fun hb=>⟨hb,rfl⟩⟩,fun _ _ h=>h,fun _ _ h=>.inl h⟩
def Fr.trans {C C' C'':Cx} {h h' c:aS} {s s' d:Hp} (a:Fr C h s C' h' s') (b:Fr C' h' s' C'' c d):Fr C h s C'' c d:=
  ⟨a.sk.trans b.sk a.n,cH3 a.n b.n,fun id hid hn=>by
    rw[b.keep id (cO3 hid a.n) (fun f=>hn (a.own id hid f)),a.keep id hid hn],
   fun id hid f=>a.own id hid (b.own id (cO3 hid a.n) f),
   fun k o hk=>by
    obtain⟨o',h1,h2⟩:=a.kd k o hk
    obtain⟨g,i,e⟩:=b.kd k o' h1
    exact⟨g,i,fun hb=>⟨(h2 (e hb).1).1,(e hb).2.trans (h2 (e hb).1).2⟩⟩,
   fun id o h=>b.zl id o (a.zl id o h),
   fun id hid h=>by
    rcases b.zn id (cO3 hid a.n) h with h1|h1
    exact a.zn id hid h1
    exact .inr (a.own id hid h1)⟩
def iO {R:Type} (C:Cx) (n:Nat) (h:aS) (lim:Nat) (s:Hp) (k:hZ) (ys:aA AV) (K:PV->aS->Nat->aB R) (r:R):Prop:=
 ∃v h' n' C' out,K v h' n'=some r/\doOp (Sim.look s.h) lim s.n k ys=some out/\RV C' v out.v/\dI C' n' h' lim (out.apply s)/\
  C.le C'/\n<=n'/\Fr C h s C' h' (out.apply s)/\(Oy k=false->∀id,id<s.n->Sim.look (out.apply s).h id=Sim.look s.h id)
section
variable {R:Type} {C:Cx} {n:Nat} {h:aS} {lim:Nat} {s:Hp} {k:hZ} {ys:List AV} {K:PV->aS->Nat->Option R} {r:R}
def bY (a:dI C n h lim s) {v:PV} {y:AV} (hd:doOp (Sim.look s.h) lim s.n k ys=some {v:=y}) (hv:RV C v y) (hK:K v h n=some r):iO C n h lim s k ys K r:=
 ⟨v,h,n,C,_,hK,hd,hv,a,.refl C,bI3 _,.refl _ _ _,fun _ _ _=>rfl⟩
def gK {h:aA iJ} {n:Nat} {o:AO} {id:Nat}:Sim.look (.ob n o::h) id=if n=id then some o else Sim.look h id:=rfl
def ext (C:Cx) (n:Nat) (pl:Pl):Cx:=⟨fun k=>if k=n then some pl else C k,C.z,C.w⟩
def nI (a:dI C n h lim s) (pl:Pl):C.le (ext C n pl):=⟨fun k q hk=>by
 have:=a.dom k q hk
 simp only[ext]
 rw[bM3 (by omega)]
 exact hk,fun _ _ h=>h⟩
def gL.mono {L L':Nat->aB AO} {w w':Nat->aB (Nat×Nat×Nat)} {nS c:Nat} (hn:nS<=c) {B:Nat->Prop} (f:∀b,B b->w b=none) (g:∀o sl,w o=some sl->¬B sl.1->w' o=some sl/\L' o=L o):
  ∀{d:Nat} {sl:Nat×Nat×Nat} {t:TD} {x:PV} {y:AV},¬B sl.1->gL L w lim nS d sl t x y->gL L' w' lim c d sl t x y
 |0,_,_,_,_,_,h=>h.elim
 |d+1,sl,.nd ty e ks,x,y,hb,h=>by
  obtain⟨rows,h1,h2⟩:=h
  refine⟨rows,h1,?_⟩
  rcases h2 with h2|⟨id,ver,els,k1,k2,k3,k4,kf,k5,k6,k7⟩
  exact .inl h2
  obtain⟨w1,w2⟩:=g id sl k2 hb
  have hid:¬B id:=fun hc=>by rw[f id hc]at k2;cases k2
  refine .inr ⟨id,ver,els,k1,w1,k3,by omega,kf,w2.trans k5,k6,fun i r r' a b=>⟨(k7 i r r' a b).1,fun j x1 k a1 b1=>?_⟩⟩
  have:=(k7 i r r' a b).2 j x1 k a1 b1
  cases hk:iH ks j with
  |none=>rw[hk]at this;exact this
  |some t=>rw[hk]at this;exact gL.mono hn f g hid this
def gL.up1 {L:Nat->aB AO} {w:Nat->aB (Nat×Nat×Nat)} {lim nS:Nat}:∀{d:Nat} {sl:Nat×Nat×Nat} {t:TD} {x:PV} {y:AV},gL L w lim nS d sl t x y->gL L w lim nS (d+1) sl t x y
 |0,_,_,_,_,h=>h.elim
 |d+1,sl,.nd ty e ks,x,y,h=>by
  obtain⟨rows,h1,h2⟩:=h
  refine⟨rows,h1,?_⟩
  rcases h2 with h2|⟨id,ver,els,k1,k2,k3,k4,kf,k5,k6,k7⟩
  exact .inl h2
  refine .inr ⟨id,ver,els,k1,k2,k3,k4,kf,k5,k6,fun i r r' a b=>⟨(k7 i r r' a b).1,fun j x1 c a1 b1=>?_⟩⟩
  have:=(k7 i r r' a b).2 j x1 c a1 b1
  cases hk:iH ks j with
  |none=>rw[hk]at this;exact this
  |some t=>rw[hk]at this;exact gL.up1 this
def gL.up {L:Nat->aB AO} {w:Nat->aB (Nat×Nat×Nat)} {lim nS d a:Nat} (hd:d<=a) {sl:Nat×Nat×Nat} {t:TD} {x:PV} {y:AV} (h:gL L w lim nS d sl t x y):gL L w lim nS a sl t x y:=by
 induction hd with
 |refl=>exact h
 |step _ ih=>exact ih.up1
def TC.mono {C':Cx} {L L':Nat->aB AO} {nS c d id i j:Nat} {ks:aA (Nat×TD)} {hs:aA (Nat×Nat×PV)} {a:PV} {b:AV} (hn:nS<=c) (f:C.le C') {B:Nat->Prop} (e:∀b,B b->C.w b=none) (g:∀o sl,C.w o=some sl->¬B sl.1->C'.w o=some sl/\L' o=L o) (hb:¬B id) (h:TC C L lim nS d id ks hs i j a b):TC C' L' lim c d id ks hs i j a b:=by
 unfold TC at h ⊢;cases hk:iH ks j with
 |none=>rw[hk]at h;exact h
 |some t=>
  rw[hk]at h;simp only at h ⊢;rcases h with⟨h1,h2⟩|⟨h1,h2⟩
  exact .inl ⟨h1,fun x k=>RV.mono f (h2 x k)⟩;exact .inr ⟨h1,gL.mono hn e g hb h2⟩
def TC.none {C:Cx} {L:Nat->aB AO} {nS d id i j:Nat} {ks:aA (Nat×TD)} {hs:aA (Nat×Nat×PV)} {a:PV} {b:AV} (hk:iH ks j=none):TC C L lim nS d id ks hs i j a b↔RC true a b:=by
 unfold TC;rw[hk]
def gX.monoB {C':Cx} {L L':Nat->aB AO} {nS q:Nat} {po:dX} {pl:Pl} (hn:nS<=q) (p:C.le C') {B:Nat->Prop} (u:∀b,B b->C.w b=none) (z:∀o sl,C.w o=some sl->¬B sl.1->C'.w o=some sl/\L' o=L o) (hb:∀id ver e len,pl=.atp id ver e len->¬B id) (n:∀id ver e len,pl=.atp id ver e len->L' id=L id) (c:gX C L lim nS po pl):gX C' L' lim q po pl:=by
 cases po with
 |box cells=>
  cases pl with
  |nil=>exact c
  |atp id ver e len=>
   obtain⟨h1,h2,ty,esz,row,h,k⟩:=c;exact⟨h1,by omega,ty,esz,row,by rw[n id ver e len rfl];exact h,k.mono (fun x y hv=>hv.mono p)⟩
 |lst ty e g rows=>
  cases pl with
  |nil=>exact c
  |atp id ver e' len=>
   obtain⟨h1,h2,h,k,els,l,m⟩:=c;exact⟨h1,by omega,h,k,els,by rw[n id ver e' len rfl];exact l,m⟩
 |lz ty e dp rows=>
  cases pl with
  |nil=>exact c
  |atp id ver e' len=>
   obtain⟨h1,h2,h,k,hf,els,l,m⟩:=c;exact⟨h1,by omega,h,k,hf,els,by rw[n id ver e' len rfl];exact l,m.mono p.2⟩
 |mp es=>
  cases pl with
  |nil=>exact c
  |atp id ver e len=>
   obtain⟨h1,h2,es',h,k⟩:=c;exact⟨h1,by omega,es',by rw[n id ver e len rfl];exact h,k⟩
 |fl fs=>
  cases pl with
  |nil=>exact c
  |atp id ver e len=>
   obtain⟨h1,h2,h,k,ty,els,l,m,s⟩:=c;exact⟨h1,by omega,h,k,ty,els,by rw[n id ver e len rfl];exact l,m,fun i f row a b=>(s i f row a b).mono (fun x y hv=>hv.mono p)⟩
 |loop N e ps a b busy fin=>
  cases pl with
  |nil=>exact c
  |atp id ver e' len=>
   obtain⟨h1,h2,st,pend,tmps,h,k,l,m⟩:=c;exact⟨h1,by omega,st,pend,tmps,by rw[n id ver e' len rfl];exact h,k,fun i v hv=>(l i v hv).imp fun y hy=>⟨hy.1,hy.2.mono p⟩,m⟩
 |tr t rows hs=>
  cases t with
  |nd ty e ks=>
  cases pl with
  |nil=>exact c
  |atp id ver e' len=>
   obtain⟨h1,h2,h,k,hf,els,d,l,m,s⟩:=c;exact⟨h1,by omega,h,k,hf,els,d,by rw[n id ver e' len rfl];exact l,m,fun i r r' a b=>⟨(s i r r' a b).1,fun j x1 A a1 b1=>((s i r r' a b).2 j x1 A a1 b1).mono hn p u z (hb id ver e' len rfl)⟩⟩
def gX.mono {C':Cx} {L L':Nat->aB AO} {nS a:Nat} {po:dX} {pl:Pl} (hn:nS<=a) (b:C.le C') (c:∀id ver e len,pl=.atp id ver e len->L' id=L id) (d:∀o sl,C.w o=some sl->C'.w o=some sl/\L' o=L o) (f:gX C L lim nS po pl):gX C' L' lim a po pl:=
 f.monoB hn b (B:=fun _=>False) (fun _ h=>h.elim) (fun o sl h _=>d o sl h) (fun _ _ _ _ _ h=>h) c
def gX.lt {L:Nat->aB AO} {nS id ver e len:Nat} {po:dX} (c:gX C L lim nS po (.atp id ver e len)):lim<=id/\id<nS:=by
 cases po with
 |box cells=>exact⟨c.1,c.2.1⟩
 |lst ty e g rows=>exact⟨c.1,c.2.1⟩
 |lz ty e dp rows=>exact⟨c.1,c.2.1⟩
 |mp es=>exact⟨c.1,c.2.1⟩
 |fl fs=>exact⟨c.1,c.2.1⟩
 |loop N e ps a b busy fin=>exact⟨c.1,c.2.1⟩
 |tr t rows hs=>cases t with|nd ty e ks=>exact⟨c.1,c.2.1⟩
def HR.lt {L:Nat->aB AO} {nS:Nat} (H:HR C h L lim nS) {k id ver e len:Nat} (hk:aK h k≠none) (a:C k=some (.atp id ver e len)):lim<=id/\id<nS:=by
 cases ho:aK h k with
 |none=>exact absurd ho hk
 |some po=>
  obtain⟨pl,h1,h2⟩:=H.ob k po ho;rw[a]at h1;cases h1;exact h2.lt
def dM1 (a:dI C n h lim s) {k:Nat} (hk:n<=k):C k=none:=by
 cases hc:C k with
 |none=>rfl
 |some pl=>have:=a.dom k pl hc;omega
def uS (a:dI C n h lim s) {k:Nat} (hk:n<=k):aK h k=none:=by
 cases hc:aK h k with
 |none=>rfl
 |some po=>
  obtain⟨pl,h1,_⟩:=a.hr.ob k po hc;have:=a.dom k pl h1;omega
def sR1 (b:dI C n h lim s) {po:dX} {pl:Pl}:∀k o,aK h k=some o->∃o',aK ((n,po)::h) k=some o'/\(iE o'=true->iE o=true/\ext C n pl k=C k):=fun k o hk=>by
 have a:n≠k:=fun e=>by rw[uS b (by omega)]at hk;cases hk
 exact⟨o,by simp[aK,a,hk],fun hb=>⟨hb,by simp[ext,Ne.symm a]⟩⟩
def sD (d:dI C n h lim s) {po:dX} {ao:AO} {ver e len:Nat} (z:gX (ext C n (.atp s.n ver e len)) (Sim.look (.ob s.n ao::s.h)) lim (s.n+1) po (.atp s.n ver e len)):
  dI (ext C n (.atp s.n ver e len)) (n+1) ((n,po)::h) lim {h:=.ob s.n ao::s.h,n:=s.n+1}/\Fr C h s (ext C n (.atp s.n ver e len)) ((n,po)::h) {h:=.ob s.n ao::s.h,n:=s.n+1}/\
  ∀id,id<s.n->Sim.look (.ob s.n ao::s.h) id=Sim.look s.h id:=by
 have p:=nI d (.atp s.n ver e len)
 have c:∀id,id<s.n->Sim.look (.ob s.n ao::s.h) id=Sim.look s.h id:=fun id hid=>by
  rw[gK,bM3 (by omega)]
 have g:∀k,aK ((n,po)::h) k≠none->k≠n->aK h k≠none:=fun k hk j=>by
  simpa[aK,Ne.symm j]using hk
 have f:∀k q,k≠n->ext C n (.atp s.n ver e len) k=some q->C k=some q:=fun k q j hk=>by
  simpa[ext,j]using hk
 refine⟨⟨⟨fun k o hk=>?_,fun k k' id v1 i t v2 e2 B h1 h2 u x=>?_,fun id o A=>?_,fun k id v1 i t h1 h2=>?_,fun id sl hw=>⟨Nat.lt_succ_of_lt (d.hr.wb id sl hw).1,Nat.lt_succ_of_lt (d.hr.wb id sl hw).2⟩,d.hr.wz⟩,fun k pl hk=>?_,⟨by simp,d.wf⟩,by have:=d.lim;show lim<=s.n+1;omega⟩,⟨.new _ _ _,by simp,fun id hid _=>c id hid,fun id hid m=>?_,sR1 d,fun _ _ h=>h,fun _ _ h=>.inl h⟩,c⟩;simp only[aK]at hk;split at hk;rename_i i;subst i;cases hk;exact⟨_,by simp[ext],z⟩;obtain⟨pl,y,r⟩:=d.hr.ob k o hk;refine⟨pl,p.1 _ _ y,r.mono (by simp) p (fun id ver e len hp=>?_) (fun o sl hw=>⟨hw,c o (d.hr.wb o sl hw).1⟩)⟩;subst hp;exact c id r.lt.2;by_cases a:k=n;by_cases b:k'=n;rw[a,b];exfalso;subst a;simp[ext]at u;have:=(d.hr.lt (g k' h2 b) (f k' _ b x)).2;omega;by_cases b:k'=n;exfalso;subst b;simp[ext]at x;have:=(d.hr.lt (g k h1 a) (f k _ a u)).2;omega;exact d.hr.inj k k' id v1 i t v2 e2 B (g k h1 a) (g k' h2 b) (f k _ a u) (f k' _ b x);obtain⟨z1,z2,z3,z4⟩:=d.hr.zr id o A;refine⟨(c id z2).trans z1,Nat.lt_succ_of_lt z2,fun k v e' l h1 h2=>?_,z4⟩;by_cases a:k=n;subst a;simp[ext]at h2;omega
 grind
 by_cases a:k=n;subst a;simp[ext]at h2;show C.w id=none
 cases hw:C.w id with
 |none=>rfl
 |some sl=>have:=(d.hr.wb id sl hw).1;omega
 exact d.hr.wn k id v1 i t (g k h1 a) (f k _ a h2);by_cases a:k=n;omega;have:=d.dom k pl (f k pl a hk);omega;rcases m with⟨k,v1,i,t,y,r⟩|m;by_cases a:k=n;subst a;simp[ext]at r;omega;exact .inl ⟨k,v1,i,t,g k y a,f k _ a r⟩;exact .inr m
def Za (C:Cx) (L:Nat->aB AO) (lim nS ty e:Nat) (g:Bool):gX C L lim nS (qY ty e g) .nil:=by
 unfold qY;cases Nat.ble 4294967296 e<;>rfl
def Tb (d:dI C n h lim s) {ty e:Nat} {g:Bool}:dI (ext C n .nil) (n+1) ((n,qY ty e g)::h) lim s/\Fr C h s (ext C n .nil) ((n,qY ty e g)::h) s:=by
 have p:=nI d .nil
 have f:∀k,aK ((n,qY ty e g)::h) k≠none->k≠n->aK h k≠none:=fun k hk j=>by
  simpa[aK,Ne.symm j]using hk
 have c:∀k q,k≠n->ext C n .nil k=some q->C k=some q:=fun k q j hk=>by
  simpa[ext,j]using hk
 refine⟨⟨⟨fun k o hk=>?_,fun k k' id v1 i r v2 e2 z h1 h2 w x=>?_,fun id o y=>?_,fun k id v1 i r h1 h2=>?_,d.hr.wb,d.hr.wz⟩,fun k pl hk=>?_,d.wf,d.lim⟩,⟨.refl _ _,bI3 _,fun id hid _=>rfl,fun id hid m=>?_,sR1 d,fun _ _ h=>h,fun _ _ h=>.inl h⟩⟩;simp only[aK]at hk;split at hk;rename_i i;subst i;cases hk;exact⟨.nil,by simp[ext],Za ..⟩;obtain⟨pl,u,t⟩:=d.hr.ob k o hk;exact⟨pl,p.1 _ _ u,t.mono (bI3 _) p (fun _ _ _ _ _=>rfl) (fun _ _ hw=>⟨hw,rfl⟩)⟩;by_cases a:k=n;subst a;simp[ext]at w;by_cases b:k'=n;subst b;simp[ext]at x;exact d.hr.inj k k' id v1 i r v2 e2 z (f k h1 a) (f k' h2 b) (c k _ a w) (c k' _ b x);obtain⟨z1,z2,z3,z4⟩:=d.hr.zr id o y;refine⟨z1,z2,fun k v e' l h1 h2=>?_,z4⟩;by_cases a:k=n;subst a;simp[ext]at h2
 grind
 by_cases a:k=n;subst a;simp[ext]at h2;exact d.hr.wn k id v1 i r (f k h1 a) (c k _ a h2);by_cases a:k=n;omega;have:=d.dom k pl (c k pl a hk);omega;rcases m with⟨k,v1,i,r,u,t⟩|m;by_cases a:k=n;subst a;simp[ext]at t;exact .inl ⟨k,v1,i,r,f k u a,c k _ a t⟩;exact .inr m
def tX (c:dI C n h lim s) {k id ver e len:Nat} {po po':dX} {ao:AO} (hk:aK h k=some po) (p:C k=some (.atp id ver e len))
  (A:gX C (Sim.look (upd s.h id ao)) lim s.n po' (.atp id ver e len)) (hb:iE po'=iE po):
  dI C n (cZ h k po') lim {h:=upd s.h id ao,n:=s.n}/\Fr C h s C (cZ h k po') {h:=upd s.h id ao,n:=s.n}:=by
 have g:∀j,aK (cZ h k po') j=if j=k then some po' else aK h j:=fun j=>by
  rw[eN];simp[hk]
 have d:∀j,aK (cZ h k po') j≠none->aK h j≠none:=fun j f=>by grind
 have a:∀j,j≠id->Sim.look (upd s.h id ao) j=Sim.look s.h j:=fun j f=>by
  rw[Sim.look_upd];simp[f]
 refine⟨⟨⟨fun j o f=>?_,fun j u i v1 b m v2 e2 z h1 h2 w x=>c.hr.inj j u i v1 b m v2 e2 z (d j h1) (d u h2) w x,fun i o y=>?_,fun j i v1 b m h1 h2=>c.hr.wn j i v1 b m (d j h1) h2,c.hr.wb,c.hr.wz⟩,c.dom,c.wf.upd _ _,c.lim⟩,⟨.upd _ _ _ _,bI3 _,fun i hi hn=>a i (fun b=>hn ?_),fun i hi hn=>?_,fun j o f=>?_,fun _ _ h=>h,fun _ _ h=>.inl h⟩⟩;rw[g]at f;split at f
 grind
 rename_i r;obtain⟨pl,q,t⟩:=c.hr.ob j o f;refine⟨pl,q,t.mono (bI3 _) (.refl C) (fun i v1 b m hp=>a i (fun e2=>r ?_)) (fun o sl hw=>⟨hw,a o fun e2=>by rw[e2,c.hr.wn k id ver e len (by rw[hk];simp) p]at hw;cases hw⟩)⟩;subst hp;subst e2;exact c.hr.inj j k i v1 b m ver e len (by rw[f];simp) (by rw[hk];simp) q p;obtain⟨z1,z2,z3,z4⟩:=c.hr.zr i o y;refine⟨(a i (fun b=>?_)).trans z1,z2,fun j v e' l h1 h2=>z3 j v e' l (d j h1) h2,z4⟩;subst b;exact z3 k ver e len (by rw[hk];simp) p;subst b;exact .inl ⟨k,ver,e,len,by rw[hk];simp,p⟩;rcases hn with⟨j,v1,b,m,q,t⟩|hn;exact .inl ⟨j,v1,b,m,d j q,t⟩;exact .inr hn
 grind
end
end Go.P
namespace Go.P
open Go.Sim (AV AO Hp iJ upd St IC IX Ex hZ CK Wf Out doOp)
section
variable {C:Cx} {y:AV}
def jB {x:Value} (h:RV C (.v x) y):y=.v x:=by cases h with|cl h=>cases h;rfl
def qP {cs:aA PV} (h:RV C (.agg cs) y):∃cs',y=.agg cs'/\LR (RV C) cs cs':=by
 cases h with
 |cl h=>cases h with|agg a b=>exact⟨_,rfl,a,fun j x y p q=>.cl (b j x y p q)⟩
 |agg a b=>exact⟨_,rfl,a,b⟩
def Fo {cs:aA PV} (h:RV C (.tup cs) y):∃cs',y=.tup cs'/\LR (RV C) cs cs':=by
 cases h with
 |cl h=>cases h with|tup a b=>exact⟨_,rfl,a,fun j x y p q=>.cl (b j x y p q)⟩
 |tup a b=>exact⟨_,rfl,a,b⟩
def Bq {cs:aA PV} (h:RV C (.ip cs) y):∃cs',y=.ip cs'/\LR (RC false) cs cs':=by
 cases h with
 |cl h=>cases h with|ip a b=>exact⟨_,rfl,a,b⟩
def Vp {e:Nat} {rows:aA (aA PV)} (h:RV C (.is e rows) y):(∃rows',y=.is e rows'/\RR rows rows')\/(rows=[]/\(y=.v (.slice none 0 0)\/y=.es)):=by
 cases h with
 |cl h=>cases h with
  |is a b c=>exact .inl ⟨_,rfl,.of_is a b c⟩
  |isn=>exact .inr ⟨rfl,.inl rfl⟩
def Vq {es:aA (PV×PV)} (h:RV C (.im es) y):∃es',y=.im es'/\ER es es':=by
 cases h with
 |cl h=>cases h with|im a b c=>exact⟨_,rfl,a,fun j x y p q=>⟨b j x y p q,c j x y p q⟩⟩
def oD {k o:Nat} (h:RV C (.ref k o) y):∃id ver e len,C k=some (.atp id ver e len)/\y=.ptr id ver 0 o:=by
 cases h with
 |cl h=>cases h
 |ref h=>exact⟨_,_,_,_,h,rfl⟩
def lA {k:Nat} (h:RV C (.own k) y):(∃id ver e len,C k=some (.atp id ver e len)/\y=.sl e id ver 0 len none)\/(C k=some .nil/\(y=.v (.slice none 0 0)\/y=.es)):=by
 cases h with
 |cl h=>cases h
 |own h=>exact .inl ⟨_,_,_,_,h,rfl⟩
 |ownn h hy=>exact .inr ⟨h,.inl hy⟩
def wI {e:Nat} {rows:aA (aA PV)} (h:RV C (.is e rows) y):(∃rows',y=.is e rows'/\RR rows rows')\/(rows=[]/\y=.v (.slice none 0 0)):=by
 cases h with
 |cl h=>cases h with
  |is a b c=>exact .inl ⟨_,rfl,.of_is a b c⟩
  |isn=>exact .inr ⟨rfl,rfl⟩
def jI {k:Nat} (h:RV C (.own k) y):(∃id ver e len,C k=some (.atp id ver e len)/\y=.sl e id ver 0 len none)\/(C k=some .nil/\y=.v (.slice none 0 0)):=by
 cases h with
 |cl h=>cases h
 |own h=>exact .inl ⟨_,_,_,_,h,rfl⟩
 |ownn h hy=>exact .inr ⟨h,hy⟩
def tY {k i o:Nat} (h:RV C (.el k i o) y):∃id ver e len,C k=some (.atp id ver e len)/\y=.ptr id ver i o:=by
 cases h with
 |cl h=>cases h
 |el h=>exact⟨_,_,_,_,h,rfl⟩
def Fp {k:Nat} (h:RV C (.map k) y):∃id ver e len,C k=some (.atp id ver e len)/\y=.map id:=by
 cases h with
 |cl h=>cases h
 |map h=>exact⟨_,_,_,_,h,rfl⟩
def Lf {k:Nat} (h:RV C (.yld k) y):∃id ver e len,C k=some (.atp id ver e len)/\y=.fn (.yield id) [] []:=by
 cases h with
 |cl h=>cases h
 |yld h=>exact⟨_,_,_,_,h,rfl⟩
def yA {f:FuncId} {a b:aA PV} (h:RV C (.fn f a b) y):∃a' b',y=.fn (.func f) a' b'/\LR (RV C) a a'/\LR (RV C) b b':=by
 cases h with
 |cl h=>cases h with|fn p q r s=>exact⟨_,_,rfl,⟨p,fun j x y h1 h2=>.cl (r j x y h1 h2)⟩,⟨q,fun j x y h1 h2=>.cl (s j x y h1 h2)⟩⟩
 |fn p q r s=>exact⟨_,_,rfl,⟨p,r⟩,⟨q,s⟩⟩
def LR.closed {xs:aA PV} {ys:aA AV} {p:Bool} (h:LR (RC p) xs ys):LR (RV C) xs ys:=h.mono fun _ _ h=>.cl h.weak
def Ab {α:Type} {l:aA α} {o:Nat} {c:α} {t:aA α} (h:l.drop o=c::t):l[o]? =some c:=by
 have:=congrArg (fun l=>l[0]?) h;simpa[cK3]using this
end
section
variable {R:Type} {C:Cx} {n:Nat} {h:aS} {lim:Nat} {s:Hp} {k:hZ} {xs:List PV} {ys:List AV} {K:PV->aS->Nat->Option R} {r:R}
def pK (C:Cx) (n:Nat) (pl:Pl):ext C n pl n=some pl:=bK3 rfl
def aD {A:Type} {a:A} {P:Prop} (h:(none:aB A)=some a):P:=by cases h
def vM1 (a:dI C n h lim s) (b:LR (RV C) xs ys) (hk:gB .mov xs h n K=some r):iO C n h lim s .mov ys K r:=by
 rcases xs with _|⟨x,_|⟨x2,t⟩⟩
 exact aD hk;have hk:K x h n=some r:=hk;obtain⟨y,_,rfl,h1,h2⟩:=b.inv_cons;rw[h2.inv_nil];exact bY a rfl h1 hk;exact aD hk
def lG1 (c:dI C n h lim s) (d:LR (RV C) xs ys) (hk:gB .nilc xs h n K=some r):iO C n h lim s .nilc ys K r:=by
 rcases xs with _|⟨x,_|⟨x2,t⟩⟩
 exact aD hk;obtain⟨y,_,rfl,h1,h2⟩:=d.inv_cons;rw[h2.inv_nil];cases x with
 |ref k o=>obtain⟨id,ver,e,len,hc,rfl⟩:=oD h1;exact bY c rfl h1 hk
 |ip cs=>obtain⟨cs',rfl,_⟩:=Bq h1;exact bY c rfl h1 hk
 |el k i o=>obtain⟨id,ver,e,len,hc,rfl⟩:=tY h1;exact bY c rfl h1 hk
 |fn f a b=>obtain⟨a',b',rfl,_⟩:=yA h1;exact bY c rfl h1 hk
 |yld k=>obtain⟨id,ver,e,len,hc,rfl⟩:=Lf h1;exact bY c rfl h1 hk
 |_=>exact aD hk
 exact aD hk
def vN1 {ty:TypeId} {size:Nat} (b:dI C n h lim s) (g:LR (RV C) xs ys) (hk:gB (.box ty size) xs h n K=some r):iO C n h lim s (.box ty size) ys K r:=by
 rcases xs with _|⟨x,_|⟨x2,t⟩⟩
 exact aD hk;have hk:nG x (fun cs=>bif Nat.beq cs.length size then(bif Nat.beq size 0 then none else K (.ref n 0) ((n,.box cs)::h) (n+1))else none)=some r:=hk;obtain⟨y,_,rfl,h1,h2⟩:=g.inv_cons;rw[h2.inv_nil];rw[mE,bD3]at hk;obtain⟨cs,d,hk⟩:=hk;obtain⟨cs',c,hl⟩:=pJ h1 d;rw[bO]at hk;by_cases f:cs.length=size;rw[cJ3 f,bS3,bO]at hk;by_cases e2:size=0
 grind
 rw[cI3 e2,cB3]at hk;have a:=nI b (.atp s.n 0 size 1);obtain⟨i,j,k⟩:=sD b (po:=.box cs) (ao:=.arr true ty size 0 [cs']) (ver:=0) (e:=size) (len:=1) ⟨b.lim,by omega,ty,size,cs',by rw[gK,bK3 rfl],hl.mono (fun _ _ h=>h.mono a)⟩;refine⟨_,_,_,_,{v:=.ptr s.n 0 0 0,new:=some (.arr true ty size 0 [cs'])},hk,?_,.ref (pK C n _),i,a,by omega,j,fun _=>k⟩;simp only[doOp,c];rw[bK3 ⟨by rw[<-hl.1];exact f,e2⟩]
 grind
 exact aD hk
def dN1 {ty:TypeId} {zero:aA Value} (a:dI C n h lim s) (c:LR (RV C) xs ys) (hk:gB (.alloc ty zero) xs h n K=some r):iO C n h lim s (.alloc ty zero) ys K r:=by
 rcases xs with _|⟨x,t⟩
 have hk:wC (zero.map .v) (fun cs=>K (.ref n 0) ((n,.box cs)::h) (n+1))=some r:=hk;rw[sA]at hk;rw[c.inv_nil];have b:=nI a (.atp s.n 0 zero.length 1);obtain⟨d,f,g⟩:=sD a (po:=.box (zero.map .v)) (ao:=.arr true ty zero.length 0 [Sim.zeroRow zero]) (ver:=0) (e:=zero.length) (len:=1) ⟨a.lim,by omega,ty,zero.length,Sim.zeroRow zero,by rw[gK,bK3 rfl],LR.zero zero⟩;exact⟨_,_,_,_,{v:=.ptr s.n 0 0 0,new:=some (.arr true ty zero.length 0 [Sim.zeroRow zero])},hk,rfl,.ref (pK C n _),d,b,by omega,f,fun _=>g⟩;exact aD hk
def Fq:∀(cells:aA PV) (parts:aA (Nat×Nat)) (xs:aA PV) (K:aA PV->aB R) (r:R) (a ys:aA AV),Oo cells parts xs K=some r->LR (RV C) cells a->LR (RV C) xs ys->
  ∃cs cs',K cs=some r/\Sim.fillParts a parts ys=some cs'/\LR (RV C) cs cs'
 |cells,[],[],K,r,a,ys,h,hl,hx=>by
  rw[hx.inv_nil]
  exact⟨cells,a,h,rfl,hl⟩
 |cells,(off,m)::ps,x::xs,K,r,a,ys,h,hl,hx=>by
  obtain⟨y,e,rfl,h1,h2⟩:=hx.inv_cons
  simp only[Oo,mE,bD3]at h
  obtain⟨cs,d,h⟩:=h
  obtain⟨cs',c,b⟩:=pJ h1 d
  rw[bO]at h
  by_cases f:cs.length=m
  rw[cJ3 f,bS3]at h
  obtain⟨j,g⟩:=mD _ _ _ _ _ h
  obtain⟨q,i,q1,q2,q3⟩:=Fq _ ps xs K r _ e g (hl.setL b off) h2
  refine⟨q,i,q1,?_,q3⟩
  simp only[Sim.fillParts,c]
  rw[bK3 ⟨by rw[<-b.1];exact f,by rw[<-hl.1];omega⟩]
  exact q2
  grind
 |cells,[],_::_,K,r,a,ys,h,hl,hx=>aD h
 |cells,_::_,[],K,r,a,ys,h,hl,hx=>aD h
def dO1 {zero:aA Value} {parts:aA (Nat×Nat)} (e:dI C n h lim s) (f:LR (RV C) xs ys) (hk:gB (.build zero parts) xs h n K=some r):iO C n h lim s (.build zero parts) ys K r:=by
 have hk:wC (zero.map .v) (fun cs=>Oo cs parts xs fun cs=>K (.agg cs) h n)=some r:=by
  rcases xs with _|⟨a,_|⟨b,_|⟨c,t⟩⟩⟩<;>exact hk
 rw[sA]at hk;obtain⟨cs,cs',g,i,d⟩:=Fq _ _ _ _ _ _ _ hk (LR.zero (C:=C) zero) f;refine bY e ?_ (.agg d.1 d.2) g;rcases ys with _|⟨a,_|⟨b,_|⟨c,t⟩⟩⟩<;>simp[doOp,i]
def Ac (f:dI C n h lim s) {k id ver e len:Nat} {cs:aA PV} (hg:aK h k=some (.box cs)) (d:C k=some (.atp id ver e len)):lim<=id/\∃ty esz row,Sim.look s.h id=some (.arr true ty esz ver [row])/\LR (RV C) cs row:=by
 obtain⟨pl,h1,h2⟩:=f.hr.ob k _ hg;rw[d]at h1;cases h1;obtain⟨a,b,c⟩:=h2;exact⟨a,c⟩
def lZ (j:dI C n h lim s) {k id ver e len e2 ty:Nat} {g:Bool} {rows:aA (aA PV)} (hg:aK h k=some (.lst ty e2 g rows)) (i:C k=some (.atp id ver e len)):lim<=id/\e=e2/\len=rows.length/\∃els,Sim.look s.h id=some (.arr false (Hj ty) e2 ver els)/\RR rows (els.take rows.length)/\(rows.length<=els.length/\SL rows.length els)/\(g=false->els.length=rows.length):=by
 obtain⟨pl,h1,h2⟩:=j.hr.ob k _ hg;rw[i]at h1;cases h1;obtain⟨a,b,c,d,f⟩:=h2;exact⟨a,c,d,f⟩
def dP1 (j:dI C n h lim s) {k id ver e len:Nat} {fs:aA PV} (hg:aK h k=some (.fl fs)) (g:C k=some (.atp id ver e len)):lim<=id/\e=1/\len=fs.length/\∃ty els,Sim.look s.h id=some (.arr false ty 1 ver els)/\els.length=fs.length/\∀(i:Nat) (f:PV) (row:aA AV),fs[i]? =some f->els[i]? =some row->LR (RV C) [f] row:=by
 obtain⟨pl,h1,h2⟩:=j.hr.ob k _ hg;rw[g]at h1;cases h1;obtain⟨a,b,c,d,f⟩:=h2;exact⟨a,c,d,f⟩
def dQ1 (b:dI C n h lim s) {k:Nat} {fs:aA PV} (hg:aK h k=some (.fl fs)) (a:C k=some .nil):False:=by
 obtain⟨pl,h1,h2⟩:=b.hr.ob k _ hg;rw[a]at h1;cases h1;exact h2
def nO (b:dI C n h lim s) {k e2 ty:Nat} {g:Bool} {rows:aA (aA PV)} (hg:aK h k=some (.lst ty e2 g rows)) (a:C k=some .nil):rows=[]:=by
 obtain⟨pl,h1,h2⟩:=b.hr.ob k _ hg;rw[a]at h1;cases h1;exact h2
def Vr (f:dI C n h lim s) {k id ver e len:Nat} {es:aA (PV×PV)} (hg:aK h k=some (.mp es)) (d:C k=some (.atp id ver e len)):lim<=id/\∃es',Sim.look s.h id=some (.map es')/\EM es es':=by
 obtain⟨pl,h1,h2⟩:=f.hr.ob k _ hg;rw[d]at h1;cases h1;obtain⟨a,b,c⟩:=h2;exact⟨a,c⟩
def Ja {y:AV} {d e:Nat} {rows:aA (aA PV)} (h:RV C (.zs d e rows) y):RZ C.z d (.is e rows) y:=by
 cases h with
 |cl h=>cases h
 |zs h=>exact h
def sS1 {y:AV} {es:aA (PV×PV)} (h:RV C (.zm es) y):(∃id es',y=.map id/\C.z id=some (.map es')/\EM es es')\/(es=[]/\y=.v (.map none)):=by
 cases h with
 |cl h=>cases h
 |zm h he=>exact .inl ⟨_,_,rfl,h,he⟩
 |zm0=>exact .inr ⟨rfl,rfl⟩
def Fs (b:dI C n h lim s) {k id ver e len e2 ty dp:Nat} {rows:aA (aA PV)} (hg:aK h k=some (.lz ty e2 dp rows)) (a:C k=some (.atp id ver e len)):lim<=id/\id<s.n/\e=e2/\len=rows.length/\iQ ty=false/\∃els,Sim.look s.h id=some (.arr false ty e2 ver els)/\Iy C.z dp rows els:=by
 obtain⟨pl,h1,h2⟩:=b.hr.ob k _ hg;rw[a]at h1;cases h1;exact h2
def Ft (b:dI C n h lim s) {k e2 ty dp:Nat} {rows:aA (aA PV)} (hg:aK h k=some (.lz ty e2 dp rows)) (a:C k=some .nil):rows=[]:=by
 obtain⟨pl,h1,h2⟩:=b.hr.ob k _ hg;rw[a]at h1;cases h1;exact h2
def sT1 {p:Bool} {e:Nat} {rows:aA (aA PV)} {y:AV} (h:RC p (.is e rows) y):(∃rows',y=.is e rows'/\RR rows rows')\/(rows=[]/\y=.v (.slice none 0 0)):=by
 cases h with
 |is a b c=>exact .inl ⟨_,rfl,.of_is a b c⟩
 |isn=>exact .inr ⟨rfl,rfl⟩
def Jb {z:Nat->aB AO} {d e:Nat} {rows:aA (aA PV)} {y:AV} (h:RZ z d (.is e rows) y):
  ((∃rows',y=.is e rows'/\RR rows rows')\/(rows=[]/\y=.v (.slice none 0 0)))\/∃c id ver ty els,d=c+1/\y=.sl e id ver 0 rows.length none/\z id=some (.arr false ty e ver els)/\rows.length<=els.length/\Iy z c rows (els.take rows.length):=by
 cases d with
 |zero=>exact .inl (sT1 h)
 |succ d=>
  rcases h with h|⟨e',rows',id,ver,ty,els,h1,h2,h3,h4,h5⟩
  exact .inl (sT1 h);cases h1;refine .inr ⟨d,id,ver,ty,els,rfl,h2,h3,h4,by simp[dJ3 h4],fun i r r' a b=>h5 i r r' a ?_⟩;rw[cD3]at b;split at b;exact b;cases b
def mU (f:dI C n h lim s) {k id ver e len e2 ty:Nat} {ks:aA (Nat×TD)} {rows:aA (aA PV)} {hs:aA (Nat×Nat×PV)} (hg:aK h k=some (.tr (.nd ty e2 ks) rows hs)) (c:C k=some (.atp id ver e len)):lim<=id/\id<s.n/\e=e2/\len=rows.length/\iQ ty=false/\∃els d,Sim.look s.h id=some (.arr false ty e2 ver els)/\(rows.length<=els.length/\SL rows.length els)/\
  ∀(i:Nat) (r:aA PV) (r':aA AV),rows[i]? =some r->els[i]? =some r'->r.length=r'.length/\∀(j:Nat) (a:PV) (b:AV),r[j]? =some a->r'[j]? =some b->TC C (Sim.look s.h) lim s.n d id ks hs i j a b:=by
 obtain⟨pl,h1,h2⟩:=f.hr.ob k _ hg;rw[c]at h1;cases h1;exact h2
def tZ (b:dI C n h lim s) {k:Nat} {t:TD} {rows:aA (aA PV)} {hs:aA (Nat×Nat×PV)} (hg:aK h k=some (.tr t rows hs)) (a:C k=some .nil):rows=[]/\hs=[]:=by
 obtain⟨pl,h1,h2⟩:=b.hr.ob k _ hg;rw[a]at h1;cases h1;cases t;exact h2
def Ad {rows:aA (aA PV)} {els:aA (aA AV)} (a:rows.length<=els.length/\SL rows.length els) {i:Nat} {row:aA PV} (hi:rows[i]? =some row):∃b,els[i]? =some b:=by
 have c:=a.1;have d:i<rows.length:=(bG3.1 hi).1;exact⟨els[i]'(by omega),by simp⟩
def mV {α:Type}:∀(cs l:aA α) (o:Nat),(Sim.setL l o cs).length=l.length
 |[],_,_=>rfl
 |c::cs,l,o=>by
  show(Sim.setL (l.set o c) (o+1) cs).length=_
  rw[mV cs,eL3]
def lB {α:Type}:∀{cs l:aA α} {o j:Nat},(j<o\/o+cs.length<=j)->(Sim.setL l o cs)[j]? =l[j]?
 |[],_,_,_,_=>rfl
 |c::cs,l,o,j,h=>by
  show(Sim.setL (l.set o c) (o+1) cs)[j]? =_
  simp only[cM3]at h
  rw[lB (by omega),bT3 (by omega)]
def sF {α:Type}:∀{cs l:aA α} {o j:Nat},o+cs.length<=l.length->o<=j->j<o+cs.length->(Sim.setL l o cs)[j]? =cs[j-o]?
 |[],_,o,j,_,h1,h2=>by simp at h2;omega
 |c::cs,l,o,j,h,h1,h2=>by
  show(Sim.setL (l.set o c) (o+1) cs)[j]? =_
  simp only[cM3]at h h2
  by_cases e:j=o
  subst e
  rw[lB (by omega),cA3]
  simp
  omega
  rw[sF (by simpa using(by omega:o+1+cs.length<=l.length)) (by omega) (by omega),show j-o=(j-(o+1))+1 by omega,List.getElem?_cons_succ]
def wJ {ks:aA (Nat×TD)}:∀(cs:aA PV) (o:Nat) (K:aA PV->aB R) (r:R),xT ks o cs K=some r->∃cs',K cs'=some r/\cs'.length=cs.length/\∀(j:Nat) (a':PV),cs'[j]? =some a'->(∃a,cs[j]? =some a/\iH ks (o+j)=none/\a'=a)\/a'=.undef
 |[],o,K,r,h=>⟨[],h,rfl,fun j a h=>by simp at h⟩
 |x::xs,o,K,r,h=>by
  unfold xT at h
  have step:∀(b:PV),((b=x/\iH ks o=none)\/b=.undef)->xT ks (o+1) xs (fun xs=>K (b::xs))=some r->∃cs',K cs'=some r/\cs'.length=(x::xs).length/\∀(j:Nat) (a':PV),cs'[j]? =some a'->(∃a,(x::xs)[j]? =some a/\iH ks (o+j)=none/\a'=a)\/a'=.undef:=fun b e h=>by
   obtain⟨cs',h1,h2,d⟩:=wJ xs (o+1) _ r h
   refine⟨b::cs',h1,by simp[h2],fun j a' c=>?_⟩
   cases j with
   |zero=>
    simp only[dB3,bL3]at c
    subst c
    rcases e with⟨rfl,hk⟩|rfl
    grind
    exact .inr rfl
   |succ j=>
    rw[List.getElem?_cons_succ]at c ⊢
    rw[show o+(j+1)=o+1+j by omega]
    exact d j a' c
  cases hk:iH ks o with
  |none=>rw[hk]at h;exact step x (.inl ⟨rfl,hk⟩) h
  |some t=>rw[hk]at h;exact step _ (.inr rfl) h
def Fu {i j:Nat} {K:Unit->aB R} {r:R} (h:cM (Vh i j) K=some r):i=j/\K ()=some r:=by
 rw[cE,bD3]at h;obtain⟨u,h1,h2⟩:=h;unfold Vh at h1;split at h1
 grind
 cases h1
def uT:∀{hs:aA (Nat×Nat×PV)} {o:Nat},Fj hs o=none->∀i x,(o,i,x)∉hs
 |[],_,_,_,_=>fun h=>by cases h
 |(j,i',x)::r,o,h,i,y=>by
  unfold Fj at h
  rw[bO]at h
  by_cases e:j=o
  grind
  rw[cI3 e]at h
  intro a
  rcases bR3.1 a with a|a
  grind
  exact uT h i y a
def uU:∀{hs:aA (Nat×Nat×PV)} {o i:Nat} {x:PV},Fj hs o=some (i,x)->(o,i,x)∈hs/\(∀q,q∈Yu hs o->q∈hs)/\∀b c y,¬(b=i/\c=o)->(c,b,y)∈hs->(c,b,y)∈Yu hs o
 |[],_,_,_,h=>by cases h
 |(j,i1,y)::r,o,i,x,h=>by
  unfold Fj at h
  rw[bO]at h
  by_cases e:j=o
  rw[cJ3 e]at h
  cases h
  subst e
  simp only[Yu,bO,dD3,bS3]
  refine⟨List.mem_cons_self ..,fun q d=>cY3 _ d,fun b c y hn a=>?_⟩
  rcases bR3.1 a with a|a
  grind
  exact a
  rw[cI3 e]at h
  obtain⟨h1,h2,f⟩:=uU h
  simp only[Yu,bO,cI3 e,cB3]
  refine⟨cY3 _ h1,fun q d=>?_,fun b c y hn a=>?_⟩
  grind
  grind
def Fv {hs:aA (Nat×Nat×PV)} {o i:Nat} {K:aA (Nat×Nat×PV)->aB R} {r:R} (h:Vi hs o i K=some r):∃a,K a=some r/\∀b c x,¬(b=i/\c=o)->((c,b,x)∈a↔(c,b,x)∈hs):=by
 unfold Vi at h;cases hc:Fj hs o with
 |none=>rw[hc]at h;exact⟨hs,h,fun _ _ _ _=>Iff.rfl⟩
 |some p=>
  obtain⟨d,x⟩:=p;rw[hc]at h;simp only at h;obtain⟨e,h1⟩:=Fu h;subst e;exact⟨_,h1,fun b c y hn=>⟨(uU hc).2.1 _,(uU hc).2.2 b c y hn⟩⟩
def Pb (C:Cx) (ks:aA (Nat×TD)) (hs:aA (Nat×Nat×PV)) (i j:Nat) (a:PV) (b:AV):Prop:=match iH ks j with
 |none=>RC true a b
 |some (.nd _ e _)=>a=.is e []/\((Cd hs i j/\∀x,(j,i,x)∈hs->RV C x b)\/(¬Cd hs i j/\b=.v (.slice none 0 0)))
def sG {ks:aA (Nat×TD)} {i:Nat}:∀(ys:aA PV) (o:Nat) (hs:aA (Nat×Nat×PV)) (zs:aA AV) (K:aA PV->aA (Nat×Nat×PV)->aB R) (r:R),xU ks i o ys hs K=some r->LR (RV C) ys zs->
  ∃l c,K l c=some r/\l.length=ys.length/\(∀g f x,(g≠i\/f<o\/o+ys.length<=f)->((f,g,x)∈c↔(f,g,x)∈hs))/\∀(j:Nat) (a:PV) (b:AV),l[j]? =some a->zs[j]? =some b->Pb C ks c i (o+j) a b
 |[],o,hs,zs,K,r,h,hl=>⟨[],hs,h,rfl,fun _ _ _ _=>Iff.rfl,fun j a b h=>by simp at h⟩
 |y::ys,o,hs,zs,K,r,h,hl=>by
  obtain⟨z,n,rfl,hv,p⟩:=hl.inv_cons
  unfold xU at h
  cases hk:iH ks o with
  |none=>
   rw[hk]at h
   simp only at h
   cases hp:iW y with
   |false=>rw[hp]at h;exact aD h
   |true=>
    rw[hp,bS3]at h
    obtain⟨l,c,h1,h2,q,s⟩:=sG ys (o+1) hs n _ r h p
    refine⟨y::l,c,h1,by simp[h2],fun g f x hc=>q g f x (by simp only[cM3]at hc;omega),fun j a b m hb=>?_⟩
    cases j with
    |zero=>
     simp only[dB3,bL3]at m hb
     subst m hb
     unfold Pb
     rw[dN3,hk]
     exact hv.plain hp
    |succ j=>
     rw[List.getElem?_cons_succ]at m hb
     rw[show o+(j+1)=o+1+j by omega]
     exact s j a b m hb
  |some t=>
   obtain⟨ty,e,u⟩:=t
   rw[hk]at h
   simp only at h
   have key:∀(d:aA (Nat×Nat×PV)),(∀g f x,¬(g=i/\f=o)->((f,g,x)∈d↔(f,g,x)∈hs))->((Cd d i o/\∀x,(o,i,x)∈d->RV C x z)\/(¬Cd d i o/\z=.v (.slice none 0 0)))->xU ks i (o+1) ys d (fun l hs=>K (.is e []::l) hs)=some r->∃l c,K l c=some r/\l.length=(y::ys).length/\(∀g f x,(g≠i\/f<o\/o+(y::ys).length<=f)->((f,g,x)∈c↔(f,g,x)∈hs))/\∀(j:Nat) (a:PV) (b:AV),l[j]? =some a->(z::n)[j]? =some b->Pb C ks c i (o+j) a b:=fun d q1 q2 h=>by
    obtain⟨l,c,h1,h2,q,s⟩:=sG ys (o+1) d n _ r h p
    refine⟨_,c,h1,by simp[h2],fun g f x hc=>?_,fun j a b m hb=>?_⟩
    grind
    cases j with
    |zero=>
     simp only[dB3,bL3]at m hb
     subst m hb
     unfold Pb
     rw[dN3,hk]
     have hi:=fun x=>q i o x (.inr (.inl (by omega)))
     refine⟨rfl,?_⟩
     rcases q2 with⟨⟨x,a1⟩,a2⟩|⟨a1,a2⟩
     exact .inl ⟨⟨x,(hi x).2 a1⟩,fun x k=>a2 x ((hi x).1 k)⟩
     exact .inr ⟨fun⟨x,k⟩=>a1 ⟨x,(hi x).1 k⟩,a2⟩
    |succ j=>
     rw[List.getElem?_cons_succ]at m hb
     rw[show o+(j+1)=o+1+j by omega]
     exact s j a b m hb
   split at h
   rename_i w
   obtain⟨d,h,q1⟩:=Fv h
   split at h
   rename_i hc
   refine key _ (fun g f x hn=>?_) (.inl ⟨⟨_,List.mem_cons_self ..⟩,fun x k=>?_⟩) h
   grind
   rcases bR3.1 k with k|k
   cases k;exact hv
   exact absurd k (uT hc i x)
   exact aD h
   obtain⟨d,h,q1⟩:=Fv h
   split at h
   rename_i hc
   exact key _ q1 (.inr ⟨fun⟨x,k⟩=>uT hc i x k,jB hv⟩) h
   exact aD h
   exact aD h
def Tc {rows:aA (aA PV)} {els:aA (aA AV)} (hr:RR rows (els.take rows.length)) {i:Nat} {row:aA PV} (hi:rows[i]? =some row):∃a,els[i]? =some a/\LR (RC true) row a:=by
 obtain⟨a,h1,h2⟩:=hr.get hi;have b:i<rows.length:=(bG3.1 hi).1;rw[cD3,bK3 b]at h1;exact⟨a,h1,h2⟩
def Fw (C:Cx) (n:Nat) (h:aS) (s:Hp) (k:hZ) (ys:aA AV) (K:PV->aS->Nat->aB R) (r:R):Prop:=∃v y,(∀lim nS,doOp (Sim.look s.h) lim nS k ys=some {v:=y})/\RV C v y/\K v h n=some r
def yB {k:hZ} {v:PV} {y:AV} (hd:∀lim nS,doOp (Sim.look s.h) lim nS k ys=some {v:=y}) (hv:RV C v y) (hK:K v h n=some r):Fw C n h s k ys K r:=⟨v,y,hd,hv,hK⟩
def Fw.step (d:dI C n h lim s) {k:hZ} (h1:Fw C n h s k ys K r):iO C n h lim s k ys K r:=by
 obtain⟨v,y,a,b,c⟩:=h1;exact bY d (a _ _) b c
def Fx (u:dI C n h lim s) (J:LR (RV C) xs ys) (hk:gB .loadS xs h n K=some r):Fw C n h s .loadS ys K r:=by
 rcases xs with _|⟨x,_|⟨x2,t⟩⟩
 exact aD hk;obtain⟨y,_,rfl,h1,h2⟩:=J.inv_cons;rw[h2.inv_nil];cases x with
 |ref k o=>
  have hk:hK h k (fun ob=>match ob with
   |.box cs=>kR o cs fun cs=>match cs with
    |c::_=>K c h n
    |[]=>none
   |_=>none)=some r:=hk
  rw[iN,bD3]at hk;obtain⟨ob,hg,hk⟩:=hk;cases ob with
  |box cs=>
   obtain⟨L,j⟩:=gP _ _ _ _ hk;obtain⟨id,ver,e,len,m,rfl⟩:=oD h1;obtain⟨_,ty,esz,row,p,hl⟩:=Ac u hg m;cases hd:cs.drop o with
   |nil=>rw[hd]at j;exact aD j
   |cons c t=>
    rw[hd]at j;obtain⟨y,hy,hv⟩:=hl.get (Ab hd);exact yB (fun lim nS=>by simp[doOp,p,hy]) hv j
  |_=>exact aD hk
 |ip cs=>
  obtain⟨cs',rfl,hl⟩:=Bq h1;cases cs with
  |nil=>exact aD hk
  |cons c t=>
   obtain⟨y,E,rfl,hv,_⟩:=hl.inv_cons;exact yB (fun _ _=>rfl) (.cl hv) hk
 |el k i o=>
  have hk:hK h k (fun ob=>match ob with
   |.lst _ _ _ rows=>cM (lQ rows i o) fun c=>K c h n
   |.fl fs=>bif Nat.beq o 0 then(kR i fs fun fs=>match fs with
    |f::_=>K f h n
    |[]=>none)else none
   |.tr t rows _=>match iH t.ks o with
    |some _=>cM (lQ rows i o) fun _=>K .undef h n
    |none=>cM (lQ rows i o) fun c=>K c h n
   |_=>none)=some r:=hk
  rw[iN,bD3]at hk;obtain⟨ob,hg,hk⟩:=hk;cases ob with
  |lst ty e2 g rows=>
   simp only[cE,bD3,lQ]at hk;obtain⟨c,⟨row,hi,w⟩,hk⟩:=hk;obtain⟨id,ver,e,len,m,rfl⟩:=tY h1;obtain⟨_,rfl,_,els,p,hr,_⟩:=lZ u hg m;obtain⟨a,b,hl⟩:=Tc hr hi;obtain⟨y,hy,hv⟩:=hl.get w;exact yB (fun lim nS=>by simp[doOp,p,b,hy]) (.cl hv.weak) hk
  |fl fs=>
   simp only[bO]at hk;by_cases G:o=0;subst G;rw[cJ3 rfl,bS3]at hk;obtain⟨L,j⟩:=gP _ _ _ _ hk;obtain⟨id,ver,e,len,m,rfl⟩:=tY h1;obtain⟨_,_,_,ty,els,p,hlen,hr⟩:=dP1 u hg m;cases hd:fs.drop i with
   |nil=>rw[hd]at j;exact aD j
   |cons c t=>
    rw[hd]at j;have hi:=Ab hd;have D:=(bG3.1 hi).1;obtain⟨y,E,l,hv,hn⟩:=(hr i c (els[i]'(by omega)) hi (by simp)).inv_cons;rw[hn.inv_nil]at l;have z:els[i]? =some [y]:=by rw[<-l];simp
    exact yB (fun lim nS=>by simp[doOp,p,z]) hv j
   grind
  |tr t rows hs=>
   obtain⟨ty,e2,ks⟩:=t
   have F:∀{v:PV->PV},(∀(d id:Nat) (c:PV) (y:AV),TC C (Sim.look s.h) lim s.n d id ks hs i o c y->RV C (v c) y)->cM (lQ rows i o) (fun c=>K (v c) h n)=some r->Fw C n h s .loadS [y] K r:=fun{v} hv q=>by
    simp only[cE,bD3,lQ]at q;obtain⟨c,⟨row,hi,w⟩,A⟩:=q;obtain⟨id,ver,e,len,m,rfl⟩:=tY h1;obtain⟨_,_,rfl,_,_,els,d,p,B,hr⟩:=mU u hg m;obtain⟨a,b⟩:=Ad B hi;obtain⟨q1,q2⟩:=hr i row a hi b;have D:=(bG3.1 w).1;have hy:a[o]? =some (a[o]'(by omega)):=by simp
    exact yB (fun lim nS=>by simp[doOp,p,b,hy]) (hv d id c _ (q2 o c _ w hy)) A
   have hk:(match iH ks o with
    |some _=>cM (lQ rows i o) fun _=>K .undef h n
    |none=>cM (lQ rows i o) fun c=>K c h n)=some r:=hk
   cases hkd:iH ks o with
   |none=>
    rw[hkd]at hk;exact F (v:=fun c=>c) (fun d id c y H=>.cl ((TC.none hkd).1 H).weak) hk
   |some t=>
    rw[hkd]at hk;exact F (v:=fun _=>.undef) (fun _ _ _ _ _=>.undef) hk
  |_=>exact aD hk
 |_=>exact aD hk
 exact aD hk
def Fy {m:Nat} (A:dI C n h lim s) (N:LR (RV C) xs ys) (hk:gB (.loadA m) xs h n K=some r):Fw C n h s (.loadA m) ys K r:=by
 rcases xs with _|⟨x,_|⟨x2,t⟩⟩
 exact aD hk;obtain⟨y,_,rfl,h1,h2⟩:=N.inv_cons;rw[h2.inv_nil];cases x with
 |ref k o=>
  have hk:hK h k (fun ob=>match ob with
   |.box cs=>kR o cs fun cs=>tT m cs fun cs=>K (.agg cs) h n
   |_=>none)=some r:=hk
  rw[iN,bD3]at hk;obtain⟨ob,hg,hk⟩:=hk;cases ob with
  |box cs=>
   obtain⟨P,O⟩:=gP _ _ _ _ hk;obtain⟨H,J⟩:=sB _ _ _ _ O;obtain⟨id,ver,e,len,w,rfl⟩:=oD h1;obtain⟨_,ty,esz,row,z,hl⟩:=Ac A hg w;have hlen:=hl.1;simp only[List.length_drop]at H;have p:=(hl.drop o).take m;exact yB (fun lim nS=>by simp[doOp,z];omega) (.agg p.1 p.2) J
  |_=>exact aD hk
 |ip cs=>
  obtain⟨cs',rfl,hl⟩:=Bq h1;have hk:tT m cs (fun cs=>K (.agg cs) h n)=some r:=hk;obtain⟨H,J⟩:=sB _ _ _ _ hk;have p:=hl.take m;refine yB (fun lim nS=>?_) (.cl (.agg p.1 p.2)) J;simp only[doOp];rw[bK3 (by rw[<-hl.1];exact H)]
 |el k i o=>
  have hk:hK h k (fun ob=>match ob with
   |.lst _ _ _ rows=>cM (mQ rows i o m) fun cs=>K (.agg cs) h n
   |.tr t rows _=>cM (mQ rows i o m) fun cs=>xT t.ks o cs fun cs=>K (.agg cs) h n
   |_=>none)=some r:=hk
  rw[iN,bD3]at hk;obtain⟨ob,hg,hk⟩:=hk;cases ob with
  |lst ty e2 g rows=>
   simp only[cE,bD3,mQ]at hk;obtain⟨c,⟨row,hi,q⟩,hk⟩:=hk;split at q;rename_i G;cases q;obtain⟨id,ver,e,len,w,rfl⟩:=tY h1;obtain⟨_,rfl,_,els,z,hr,_⟩:=lZ A hg w;obtain⟨f,l,hl⟩:=Tc hr hi;have p:=(hl.drop o).take m;have hlen:=hl.1;exact yB (fun lim nS=>by simp[doOp,z,l];omega) (.cl (.agg p.1 fun j x y a b=>(p.2 j x y a b).weak)) hk;cases q
  |tr t rows hs=>
   obtain⟨ty,e2,ks⟩:=t;simp only[TD.ks,cE,bD3,mQ]at hk;obtain⟨c,⟨row,hi,q⟩,hk⟩:=hk;split at q;rename_i G;cases q;obtain⟨cs',hk,D,E⟩:=wJ _ _ _ _ hk;obtain⟨id,ver,e,len,w,rfl⟩:=tY h1;obtain⟨_,_,rfl,_,_,els,d,z,F,hr⟩:=mU A hg w;obtain⟨f,l⟩:=Ad F hi;obtain⟨q1,q2⟩:=hr i row f hi l;refine yB (v:=.agg cs') (y:=.agg ((f.drop o).take m)) (fun lim nS=>by simp[doOp,z,l];omega) (.agg (by simp at D ⊢;omega) fun j a b M hb=>?_) hk;rcases E j a M with⟨a0,u,L,rfl⟩|rfl;rw[cD3]at u hb;split at u;rename_i B;rw[bK3 B,cK3]at hb;rw[cK3]at u;exact .cl ((TC.none L).1 (q2 (o+j) a b u hb)).weak;cases u;exact .undef;cases q
  |_=>exact aD hk
 |_=>exact aD hk
 exact aD hk
def dR1 (a:dI C n h lim s) (b:LR (RV C) xs ys) (hk:gB .loadS xs h n K=some r):iO C n h lim s .loadS ys K r:=(Fx a b hk).step a
def dS1 {m:Nat} (a:dI C n h lim s) (b:LR (RV C) xs ys) (hk:gB (.loadA m) xs h n K=some r):iO C n h lim s (.loadA m) ys K r:=(Fy a b hk).step a
def dT1 {m:Nat} (H:dI C n h lim s) (hx:LR (RV C) xs ys) (hk:gB (.store m) xs h n K=some r):iO C n h lim s (.store m) ys K r:=by
 rcases xs with _|⟨p,_|⟨x,_|⟨x2,t⟩⟩⟩
 exact aD hk;exact aD hk;obtain⟨y1,_,rfl,h1,h2⟩:=hx.inv_cons;obtain⟨y2,_,rfl,h3,h4⟩:=h2.inv_cons;rw[h4.inv_nil];cases p with
 |ref k o=>
  have hk:hK h k (fun ob=>match ob with
   |.box cs=>nG x fun ys=>bif Nat.beq ys.length m then wE cs o ys fun cs=>iT h k (.box cs) fun h=>K .undef h n else none
   |_=>none)=some r:=hk
  rw[iN,bD3]at hk;obtain⟨ob,hg,hk⟩:=hk;cases ob with
  |box cs=>
   simp only[mE,bD3]at hk;obtain⟨zs,F,hk⟩:=hk;obtain⟨q,E,y⟩:=pJ h3 F;rw[bO]at hk;by_cases V:zs.length=m;rw[cJ3 V,bS3]at hk;obtain⟨k1,k2⟩:=mD _ _ _ _ _ hk;have k3:=eF _ _ _ _ _ k2;obtain⟨id,ver,e,len,A,rfl⟩:=oD h1;obtain⟨u,ty,esz,row,N,hl⟩:=Ac H hg A;have hid:=(H.hr.lt (by rw[hg];simp) A).2;obtain⟨m1,m2⟩:=tX H (po':=.box (Sim.setL cs o zs)) (ao:=.arr true ty esz ver [Sim.setL row o q]) hg A ⟨u,hid,ty,esz,_,by rw[Sim.look_upd];simp[N],hl.setL y o⟩ rfl;have hlen:=hl.1;have T:=y.1;refine⟨_,_,_,_,{v:=.undef,up:=some (id,.arr true ty esz ver [Sim.setL row o q])},k3,?_,.undef,m1,.refl _,bI3 _,m2,fun he=>by cases he⟩;simp only[doOp,E,N];rw[bK3 ⟨by trivial,u,by omega⟩];simp only[dB3];rw[bK3 (by omega)];rfl;rw[cI3 V]at hk;exact aD hk
  |_=>exact aD hk
 |el k i o=>
  have hk:hK h k (fun ob=>match ob with
   |.lst ty e g rows=>nG x fun ys=>bif Nat.beq ys.length m&&ys.all iW then cM (pE rows i o ys) fun rows=>iT h k (.lst ty e g rows) fun h=>K .undef h n else none
   |.tr t rows hs=>nG x fun ys=>bif Nat.beq ys.length m then xU t.ks i o ys hs fun ys hs=>cM (pE rows i o ys) fun rows=>iT h k (.tr t rows hs) fun h=>K .undef h n else none
   |_=>none)=some r:=hk
  rw[iN,bD3]at hk;obtain⟨ob,hg,hk⟩:=hk;cases ob with
  |lst ty e2 g rows=>
   simp only[mE,bD3]at hk;obtain⟨zs,F,hk⟩:=hk;obtain⟨q,E,y⟩:=pJ h3 F;by_cases hc:(Nat.beq zs.length m&&zs.all iW)=true;rw[hc,bS3,cE,bD3]at hk;simp only[bF3,bO,bN3]at hc;obtain⟨U,c,hk⟩:=hk;have k3:=eF _ _ _ _ _ hk;unfold pE at c;split at c;rename_i row hi;split at c;rename_i b7;cases c;obtain⟨id,ver,e,len,A,rfl⟩:=tY h1;obtain⟨u,rfl,hlen,els,N,hr,z,b4⟩:=lZ H hg A;have hid:=(H.hr.lt (by rw[hg];simp) A).2;obtain⟨f,D,hl⟩:=Tc hr hi;have O:i<rows.length:=(bG3.1 hi).1;have d0:=y.plain hc.2
   obtain⟨m1,m2⟩:=tX H (po':=.lst ty e g (rows.set i (Sim.setL row o zs))) (ao:=.arr false (Hj ty) e ver (els.set i (Sim.setL f o q))) hg A
    ⟨u,hid,rfl,by simpa using hlen,els.set i (Sim.setL f o q),by rw[Sim.look_upd];simp[N],by
     rw[eL3,List.take_set];exact hr.set (hl.setL d0 o) i,LS.set z hi,by simpa using b4⟩ rfl
   have b8:=hl.1;have T:=y.1;refine⟨_,_,_,_,{v:=.undef,up:=some (id,.arr false (Hj ty) e ver (els.set i (Sim.setL f o q)))},k3,?_,.undef,m1,.refl _,bI3 _,m2,fun he=>by cases he⟩;simp only[doOp,E,N];rw[bK3 ⟨by trivial,u,by omega⟩,D];simp only;rw[bK3 (by omega)];cases c;cases c;simp only[eW3]at hc;rw[hc]at hk;exact aD hk
  |tr t rows hs=>
   obtain⟨ty,e2,ks⟩:=t;simp only[TD.ks,mE,bD3]at hk;obtain⟨zs,F,hk⟩:=hk;obtain⟨q,E,y⟩:=pJ h3 F;rw[bO]at hk;by_cases V:zs.length=m;rw[cJ3 V,bS3]at hk;obtain⟨l,X,hk,d3,b5,b6⟩:=sG _ _ _ _ _ _ hk y;rw[cE,bD3]at hk;obtain⟨U,c,hk⟩:=hk;have k3:=eF _ _ _ _ _ hk;unfold pE at c;split at c;rename_i row hi;split at c;rename_i b7;cases c;obtain⟨id,ver,e,len,A,rfl⟩:=tY h1;obtain⟨u,hid,rfl,hlen,b0,els,d,N,z,hr⟩:=mU H hg A;obtain⟨f,D⟩:=Ad z hi;obtain⟨q1,q2⟩:=hr i row f hi D;have b9:=y.1;have Z:=H.hr.wn k id ver e len (by rw[hg];simp) A;have Y:∀G,G≠id->Sim.look (upd s.h id (.arr false ty e ver (els.set i (Sim.setL f o q)))) G=Sim.look s.h G:=fun G h=>by rw[Sim.look_upd];simp[h]
   have hW:∀G sl,C.w G=some sl->¬False->C.w G=some sl/\Sim.look (upd s.h id (.arr false ty e ver (els.set i (Sim.setL f o q)))) G=Sim.look s.h G:=fun G sl hw _=>⟨hw,Y G fun h=>by rw[h,Z]at hw;cases hw⟩
   obtain⟨m1,m2⟩:=tX H (po':=.tr (.nd ty e ks) (rows.set i (Sim.setL row o l)) X) (ao:=.arr false ty e ver (els.set i (Sim.setL f o q))) hg A
    ⟨u,hid,rfl,by simpa using hlen,b0,els.set i (Sim.setL f o q),d+1,by rw[Sim.look_upd];simp[N],LS.set z hi,fun P r1 d2 R hb=>by
     have old:∀{r2 J:aA _},rows[P]? =some r2->els[P]? =some J->∀(j:Nat) (a:PV) (b:AV),r2[j]? =some a->J[j]? =some b->(P≠i\/j<o\/o+zs.length<=j)->TC C (Sim.look (upd s.h id (.arr false ty e ver (els.set i (Sim.setL f o q))))) lim s.n (d+1) id ks X P j a b:=fun{r2 J} g1 g2 j a b L M g5=>by
      have:=((hr P r2 J g1 g2).2 j a b L M).mono (bI3 _) (.refl C) (B:=fun _=>False) (fun _ h=>h.elim) hW (fun h=>h);unfold TC at this ⊢;have hi:=fun x=>b5 P j x g5;cases hkd:iH ks j with
      |none=>rw[hkd]at this;exact this
      |some t=>
       rw[hkd]at this;simp only at this ⊢;rcases this with⟨⟨x,a1⟩,a2⟩|⟨a1,a2⟩
       exact .inl ⟨⟨x,(hi x).2 a1⟩,fun x hx=>a2 x ((hi x).1 hx)⟩;exact .inr ⟨fun⟨x,hx⟩=>a1 ⟨x,(hi x).1 hx⟩,a2.up1⟩
     rw[cA3]at R hb;by_cases S:i=P;subst S;rw[bK3 rfl]at R hb;have O:=(bG3.1 hi).1;rw[bK3 O]at R;rw[bK3 (by omega)]at hb;cases R;cases hb;refine⟨by rw[mV,mV];exact q1,fun j a b L M=>?_⟩;by_cases W:o<=j/\j<o+zs.length;rw[sF (by omega) W.1 (by omega)]at L;rw[sF (by omega) W.1 (by omega)]at M;have:=b6 (j-o) a b L M;rw[show o+(j-o)=j by omega]at this;unfold Pb at this;unfold TC;cases hkd:iH ks j with
     |none=>rw[hkd]at this;exact this
     |some t=>
      obtain⟨d5,e3,d4⟩:=t;rw[hkd]at this;simp only at this ⊢;obtain⟨rfl,this⟩:=this;rcases this with this|⟨a1,a2⟩
      exact .inl this;exact .inr ⟨a1,[],rfl,.inl ⟨rfl,a2⟩⟩
     rw[lB (by omega)]at L;rw[lB (by omega)]at M;exact old hi D j a b L M (by omega);rw[bM3 S]at R hb;exact⟨(hr P r1 d2 R hb).1,fun j a b L M=>old R hb j a b L M (.inl fun h=>S h.symm)⟩⟩ rfl
   refine⟨_,_,_,_,{v:=.undef,up:=some (id,.arr false ty e ver (els.set i (Sim.setL f o q)))},k3,?_,.undef,m1,.refl _,bI3 _,m2,fun he=>by cases he⟩;simp only[doOp,E,N];rw[bK3 ⟨by trivial,u,by omega⟩,D];simp only;rw[bK3 (by omega)];cases c;cases c;rw[cI3 V]at hk;exact aD hk
  |_=>exact aD hk
 |_=>exact aD hk
 exact aD hk
def vO1 {off:Nat} (b:dI C n h lim s) (d:LR (RV C) xs ys) (hk:gB (.fad off) xs h n K=some r):iO C n h lim s (.fad off) ys K r:=by
 rcases xs with _|⟨x,_|⟨x2,t⟩⟩
 exact aD hk;obtain⟨y,_,rfl,h1,h2⟩:=d.inv_cons;rw[h2.inv_nil];cases x with
 |ref k o=>
  obtain⟨id,ver,e,len,a,rfl⟩:=oD h1;exact bY b rfl (.ref a) hk
 |ip cs=>
  have hk:kR off cs (fun cs=>K (.ip cs) h n)=some r:=hk;obtain⟨g,f⟩:=gP _ _ _ _ hk;obtain⟨cs',rfl,hl⟩:=Bq h1;have c:=hl.drop off;exact bY b rfl (.cl (.ip c.1 c.2)) f
 |el k i o=>
  obtain⟨id,ver,e,len,a,rfl⟩:=tY h1;exact bY b rfl (.el a) hk
 |_=>exact aD hk
 exact aD hk
end
end Go.P
namespace Go.P
open Go.Sim (AV AO Hp iJ upd St IC IX Ex hZ CK Wf Out doOp)
section
variable {R:Type} {C:Cx} {n:Nat} {h:aS} {lim:Nat} {s:Hp} {k:hZ} {xs:List PV} {ys:List AV} {K:PV->aS->Nat->Option R} {r:R}
def vP1 {e:Nat} (f:dI C n h lim s) (B:LR (RV C) xs ys) (hk:gB (.iad e) xs h n K=some r):iO C n h lim s (.iad e) ys K r:=by
 rcases xs with _|⟨x,_|⟨i,_|⟨x2,t⟩⟩⟩
 exact aD hk;exact aD hk;obtain⟨D,_,rfl,h1,h2⟩:=B.inv_cons;obtain⟨E,_,rfl,z,A⟩:=h2.inv_cons;rw[A.inv_nil];cases i with
 |v iv=>
  cases iv with
  |int kk i=>
   rw[jB z];cases x with
   |is e' rows=>
    have hk:(bif Nat.beq e' e then cM (wF rows i) (fun row=>K (.ip row) h n)else none)=some r:=hk;rw[bO]at hk;by_cases l:e'=e;subst l;simp only[dD3,bS3,cE,bD3,wF]at hk;obtain⟨row,d,hk⟩:=hk;split at d;rename_i h0;rcases Vp h1 with⟨rows',rfl,hr⟩|⟨rfl,_⟩
    obtain⟨w,q,hl⟩:=hr.get d;exact bY f (by simp[doOp,Sim.intOf,h0,q]) (.cl (.ip hl.1 fun j x y a b=>(hl.2 j x y a b).weak)) hk;simp at d;cases d
    grind
   |own k=>
    have hk:hK h k (fun ob=>match ob with
     |.lst _ e' _ rows=>bif Nat.beq e' e then cM (sW rows.length i) (fun i=>K (.el k i 0) h n)else none
     |.fl fs=>bif Nat.beq e 1 then lC1 i (fun i=>bif Nat.blt i fs.length then K (.el k i 0) h n else none)else none
     |.tr t rows _=>match t with|.nd _ e' _=>bif Nat.beq e' e then cM (sW rows.length i) (fun i=>K (.el k i 0) h n)else none
     |_=>none)=some r:=hk
    rw[iN,bD3]at hk;obtain⟨ob,hg,hk⟩:=hk;cases ob with
    |lst ty e2 g rows=>
     simp only[bO]at hk;by_cases l:e2=e;subst l;simp only[dD3,bS3,cE,bD3,sW]at hk;obtain⟨m,p,o⟩:=hk;split at p;rename_i h0;cases p;rcases lA h1 with⟨id,ver,u,len,c,rfl⟩|⟨c,_⟩
     obtain⟨_,rfl,hlen,_⟩:=lZ f hg c;refine bY (v:=.el k i.toNat 0) (y:=.ptr id ver i.toNat 0) f ?_ (.el c) o;simp only[doOp,Sim.intOf];rw[bK3 ⟨by trivial,h0.1,by omega⟩,dC3];have:=nO f hg c;subst this;simp at h0;omega;cases p
     grind
    |fl fs=>
     simp only[bO]at hk;by_cases l:e=1;subst l;rw[cJ3 rfl,bS3]at hk;cases i with
     |negSucc m=>exact aD hk
     |ofNat m=>
      cases hlt:Nat.blt m fs.length with
      |false=>simp only[lC1,hlt,cB3]at hk;exact aD hk
      |true=>
       simp only[lC1,hlt,bS3]at hk;rw[dP3]at hlt;rcases lA h1 with⟨id,ver,u,len,c,rfl⟩|⟨c,_⟩
       obtain⟨_,rfl,hlen,_⟩:=dP1 f hg c;refine bY (v:=.el k m 0) (y:=.ptr id ver m 0) f ?_ (.el c) hk;simp only[doOp,Sim.intOf];rw[bK3 ⟨by trivial,by simp,by simp;omega⟩,dC3];rfl;exact(dQ1 f hg c).elim
     grind
    |tr t rows hs=>
     obtain⟨ty,e2,ks⟩:=t;simp only[bO]at hk;by_cases l:e2=e;subst l;simp only[dD3,bS3,cE,bD3,sW]at hk;obtain⟨m,p,o⟩:=hk;split at p;rename_i h0;cases p;rcases lA h1 with⟨id,ver,u,len,c,rfl⟩|⟨c,_⟩
     obtain⟨_,_,rfl,hlen,_⟩:=mU f hg c;refine bY (v:=.el k i.toNat 0) (y:=.ptr id ver i.toNat 0) f ?_ (.el c) o;simp only[doOp,Sim.intOf];rw[bK3 ⟨by trivial,h0.1,by omega⟩,dC3];have:=(tZ f hg c).1;subst this;simp at h0;omega;cases p
     grind
    |_=>exact aD hk
   |_=>exact aD hk
  |_=>exact aD hk
 |_=>exact aD hk
 exact aD hk
def Zb (e:dI C n h lim s) (f:LR (RV C) xs ys) (hk:gB .idxStr xs h n K=some r):iO C n h lim s .idxStr ys K r:=by
 rcases xs with _|⟨x,_|⟨i,_|⟨x2,t⟩⟩⟩
 exact aD hk;exact aD hk;obtain⟨j,_,rfl,h1,h2⟩:=f.inv_cons;obtain⟨k,_,rfl,c,d⟩:=h2.inv_cons;rw[d.inv_nil];cases x with
 |v xv=>
  cases xv with
  |string b=>
   cases i with
   |v iv=>
    cases iv with
    |int kk i=>
     rw[jB h1,jB c];have hk:cM (tU b i) (fun b=>K (.v (.int .u8 b)) h n)=some r:=hk;simp only[cE,bD3,tU]at hk;obtain⟨m,a,hk⟩:=hk;split at a;rename_i h0;simp only[bH3]at a;obtain⟨g,hb,rfl⟩:=a;refine bY e ?_ (.cl (.v _)) hk;simp only[doOp,Sim.intOf];rw[bK3 h0,hb];cases a
    |_=>exact aD hk
   |_=>exact aD hk
  |_=>cases i with
   |v iv=>cases iv<;>exact aD hk
   |_=>exact aD hk
 |_=>cases i with
  |v iv=>cases iv<;>exact aD hk
  |_=>exact aD hk
 exact aD hk
def lH1 {len e:Nat} {agg:Bool} (b:dI C n h lim s) (j:LR (RV C) xs ys) (hk:gB (.idxA len e agg) xs h n K=some r):iO C n h lim s (.idxA len e agg) ys K r:=by
 rcases xs with _|⟨x,_|⟨i,_|⟨x2,t⟩⟩⟩
 exact aD hk;exact aD hk;obtain⟨k,_,rfl,h1,h2⟩:=j.inv_cons;obtain⟨l,_,rfl,f,g⟩:=h2.inv_cons;rw[g.inv_nil];cases x with
 |agg cs=>
  obtain⟨cs',rfl,hl⟩:=qP h1;cases i with
  |v iv=>
   cases iv with
   |int kk i=>
    rw[jB f];have hk:(bif agg then cM (tV cs i len e) (fun cs=>K (.agg cs) h n)else cM (xO cs i len e) fun c=>K c h n)=some r:=hk;cases agg with
    |true=>
     simp only[bS3,cE,bD3,tV]at hk;obtain⟨q,a,hk⟩:=hk;split at a;rename_i h0;cases a;have d:=(hl.drop (i.toNat*e)).take e;refine bY b ?_ (.agg d.1 d.2) hk;simp only[doOp,Sim.intOf];rw[bK3 ⟨h0.1,h0.2.1⟩];rfl;cases a
    |false=>
     simp only[cB3,cE,bD3,xO]at hk;obtain⟨q,a,hk⟩:=hk;split at a;rename_i h0;obtain⟨y,hy,hv⟩:=hl.get a;refine bY b ?_ hv hk;simp only[doOp,Sim.intOf];rw[bK3 h0];simp[hy];cases a
   |_=>exact aD hk
  |_=>exact aD hk
 |_=>cases i with
  |v iv=>cases iv<;>exact aD hk
  |_=>exact aD hk
 exact aD hk
def Zc {op:BinOp} {x y:PV} {K:PV->aB R} {r:R} (hk:vG1 op x y K=some r):∃a b c,x=.v a/\y=.v b/\Sim.binS op a b=some c/\K (.v c)=some r:=by
 cases x with
 |v a=>
  cases y with
  |v b=>
   cases a with
   |int k a=>
    cases b with
    |int k' b=>
     have key:∀{z:aB R} {w:aB Value},(op≠.shl/\op≠.shr)->(vG1 op (.v (.int k a)) (.v (.int k' b)) K=bif kEq k k' then z else none)->(Sim.binS op (.int k a) (.int k' b)=if k=k' then w else none)->(z=some r->∃c,w=some c/\K (.v c)=some r)->∃a' b' c,PV.v (.int k a)=.v a'/\PV.v (.int k' b)=.v b'/\Sim.binS op a' b'=some c/\K (.v c)=some r:=by
      intro z w _ f e2 g;rw[f,Le]at hk;by_cases e:k=k'
      .rw [cJ3 e,bS3]at hk
       obtain⟨c,i,j⟩:=g hk;exact⟨_,_,c,rfl,rfl,by rw[e2,bK3 e];exact i,j⟩
      .rw [cI3 e]at hk;exact aD hk
     cases op
     case shl=>
      have hk:cM (if b<0 then none else some (k.wrap (a*2^min b.toNat k.bits))) (fun r=>K (.v (.int k r)))=some r:=hk;simp only[cE,bD3]at hk;obtain⟨q,d,hk⟩:=hk;split at d
      .cases d
      .rename_i h0
       cases d;exact⟨_,_,_,rfl,rfl,by simp only[Sim.binS];rw[bM3 h0],hk⟩
     case shr=>
      have hk:cM (if b<0 then none else some (a.fdiv (2^min b.toNat k.bits))) (fun r=>K (.v (.int k r)))=some r:=hk;simp only[cE,bD3]at hk;obtain⟨q,d,hk⟩:=hk;split at d
      .cases d
      .rename_i h0
       cases d;exact⟨_,_,_,rfl,rfl,by simp only[Sim.binS];rw[bM3 h0],hk⟩
     case add=>exact key (by simp) rfl rfl (fun h=>⟨_,rfl,h⟩)
     case sub=>exact key (by simp) rfl rfl (fun h=>⟨_,rfl,h⟩)
     case mul=>exact key (by simp) rfl rfl (fun h=>⟨_,rfl,h⟩)
     case and=>exact key (by simp) rfl rfl (fun h=>⟨_,rfl,h⟩)
     case or=>exact key (by simp) rfl rfl (fun h=>⟨_,rfl,h⟩)
     case xor=>exact key (by simp) rfl rfl (fun h=>⟨_,rfl,h⟩)
     case andNot=>exact key (by simp) rfl rfl (fun h=>⟨_,rfl,h⟩)
     case eql=>exact key (by simp) rfl rfl (fun h=>⟨_,rfl,h⟩)
     case neq=>exact key (by simp) rfl rfl (fun h=>⟨_,rfl,h⟩)
     case lss=>exact key (by simp) rfl rfl (fun h=>⟨_,rfl,h⟩)
     case leq=>exact key (by simp) rfl rfl (fun h=>⟨_,rfl,h⟩)
     case gtr=>exact key (by simp) rfl rfl (fun h=>⟨_,rfl,h⟩)
     case geq=>exact key (by simp) rfl rfl (fun h=>⟨_,rfl,h⟩)
     case quo=>exact key (z:=cM (if b=0 then none else some (k.wrap (a.tdiv b))) fun r=>K (.v (.int k r))) (by simp) rfl rfl (fun h=>by
      simp only[cE,bD3]at h;obtain⟨q,d,h⟩:=h;split at d
      .cases d
      .rename_i h0;cases d;exact⟨_,by rw[bM3 h0],h⟩)
     case rem=>exact key (z:=cM (if b=0 then none else some (a.tmod b)) fun r=>K (.v (.int k r))) (by simp) rfl rfl (fun h=>by
      simp only[cE,bD3]at h;obtain⟨q,d,h⟩:=h;split at d
      .cases d
      .rename_i h0;cases d;exact⟨_,by rw[bM3 h0],h⟩)
     all_goals (first|exact aD hk|exact key (z:=none) (w:=none) (by simp) rfl rfl (fun h=>aD h))
    |_=>exact aD hk
   |string a=>
    cases b with
    |string b=>
     cases op
     case add=>
      have hk:cM (if a.size+b.size<=2^62 then some (a++b)else none) (fun r=>K (.v (.string r)))=some r:=hk;simp only[cE,bD3]at hk;obtain⟨q,d,hk⟩:=hk;split at d
      .rename_i h0
       cases d;exact⟨_,_,_,rfl,rfl,by simp only[Sim.binS];rw[bK3 h0],hk⟩
      .cases d
     all_goals first|exact aD hk|exact⟨_,_,_,rfl,rfl,rfl,hk⟩
    |_=>exact aD hk
   |_=>exact aD hk
  |_=>exact aD hk
 |_=>exact aD hk
def vQ1 {op:BinOp} (f:dI C n h lim s) (g:LR (RV C) xs ys) (hk:gB (.bin op) xs h n K=some r):iO C n h lim s (.bin op) ys K r:=by
 rcases xs with _|⟨x,_|⟨i,_|⟨x2,t⟩⟩⟩
 exact aD hk;exact aD hk;obtain⟨j,_,rfl,h1,h2⟩:=g.inv_cons;obtain⟨k,_,rfl,d,e⟩:=h2.inv_cons;rw[e.inv_nil];obtain⟨a,b,c,rfl,rfl,hb,hk⟩:=Zc (K:=fun v=>K v h n) hk;rw[jB h1,jB d];exact bY f (by simp[doOp,hb]) (.cl (.v c)) hk;exact aD hk
def vR1 {neg:Bool} (e:dI C n h lim s) (f:LR (RV C) xs ys) (hk:gB (.eqB neg) xs h n K=some r):iO C n h lim s (.eqB neg) ys K r:=by
 rcases xs with _|⟨x,_|⟨i,_|⟨x2,t⟩⟩⟩
 exact aD hk;exact aD hk;obtain⟨g,_,rfl,h1,h2⟩:=f.inv_cons;obtain⟨j,_,rfl,c,d⟩:=h2.inv_cons;rw[d.inv_nil];cases x with
 |v xv=>
  cases xv with
  |bool a=>
   cases i with
   |v iv=>
    cases iv with
    |bool b=>
     rw[jB h1,jB c];exact bY e rfl (.cl (.v _)) hk
    |_=>exact aD hk
   |_=>exact aD hk
  |_=>cases i with
   |v iv=>cases iv<;>exact aD hk
   |_=>exact aD hk
 |_=>cases i with
  |v iv=>cases iv<;>exact aD hk
  |_=>exact aD hk
 exact aD hk
def Jc:∀(ks:aA CK) (as i:aA PV) (K:Bool->aB R) (r:R) (c d:aA AV),lB1 ks as i K=some r->LR (RV C) as c->LR (RV C) i d->
  ∃b,Sim.cellsEq ks c d=some b/\K b=some r/\c.length=ks.length/\d.length=ks.length
 |[],[],[],K,r,c,d,h,ha,hb=>by
  rw[ha.inv_nil,hb.inv_nil]
  exact⟨true,rfl,h,rfl,rfl⟩
 |k::ks,a::as,b::i,K,r,c,d,h,ha,hb=>by
  obtain⟨y,ys,rfl,h1,h2⟩:=ha.inv_cons
  obtain⟨z,zs,rfl,l,m⟩:=hb.inv_cons
  simp only[lB1]at h
  obtain⟨t,p,f,s,u⟩:=Jc ks as i _ r ys zs h h2 m
  have fin:∀q:Bool,Sim.cellEq k y z=some q->K (q&&t)=some r->∃b,Sim.cellsEq (k::ks) (y::ys) (z::zs)=some b/\K b=some r/\(y::ys).length=(k::ks).length/\(z::zs).length=(k::ks).length:=by
   intro q n hK;refine⟨q&&t,?_,hK,by simp[s],by simp[u]⟩;simp only[Sim.cellsEq,n];cases q;rfl;simpa using p
  split at f;rename_i j x o g;rw[Le]at f;by_cases e:j=o;rw[cJ3 e,bS3]at f;rw[jB h1,jB l]at fin ⊢;exact fin (x==g) (by simp[Sim.cellEq,e]) f
  grind
  rename_i x g;rw[jB h1,jB l]at fin ⊢;exact fin (x==g) rfl f;rename_i x g;rw[jB h1,jB l]at fin ⊢;exact fin (x==g) rfl f;exact aD f
 |[],_::_,_,_,_,_,_,h,_,_=>aD h
 |[],[],_::_,_,_,_,_,h,_,_=>aD h
 |_::_,[],_,_,_,_,_,h,_,_=>aD h
 |_::_,_::_,[],_,_,_,_,h,_,_=>aD h
def vS1 {neg:Bool} {ks:aA CK} (f:dI C n h lim s) (j:LR (RV C) xs ys) (hk:gB (.eqA neg ks) xs h n K=some r):iO C n h lim s (.eqA neg ks) ys K r:=by
 rcases xs with _|⟨x,_|⟨i,_|⟨x2,t⟩⟩⟩
 exact aD hk;exact aD hk;obtain⟨p,_,rfl,h1,h2⟩:=j.inv_cons;obtain⟨q,_,rfl,d,e⟩:=h2.inv_cons;rw[e.inv_nil];cases x with
 |agg as=>
  cases i with
  |agg bs=>
   obtain⟨a,rfl,g⟩:=qP h1;obtain⟨c,rfl,hb⟩:=qP d;obtain⟨b,k,l,m,o⟩:=Jc ks as bs _ r a c hk g hb;refine bY f ?_ (.cl (.v _)) l;simp only[doOp];rw[bK3 ⟨m,o⟩,k]
  |_=>exact aD hk
 |_=>cases i<;>exact aD hk
 exact aD hk
def zT1 {op:UnOp} (a:dI C n h lim s) (b:LR (RV C) xs ys) (hk:gB (.un op) xs h n K=some r):iO C n h lim s (.un op) ys K r:=by
 rcases xs with _|⟨x,_|⟨x2,t⟩⟩
 exact aD hk;obtain⟨y,_,rfl,h1,h2⟩:=b.inv_cons;rw[h2.inv_nil];cases x with
 |v xv=>
  rw[jB h1];cases op<;>cases xv<;>first|exact aD hk|exact bY a rfl (.cl (.v _)) hk
 |_=>cases op<;>exact aD hk
 exact aD hk
def dU1 {k:IntKind} (a:dI C n h lim s) (b:LR (RV C) xs ys) (hk:gB (.convI k) xs h n K=some r):iO C n h lim s (.convI k) ys K r:=by
 rcases xs with _|⟨x,_|⟨x2,t⟩⟩
 exact aD hk;obtain⟨y,_,rfl,h1,h2⟩:=b.inv_cons;rw[h2.inv_nil];cases x with
 |v xv=>
  rw[jB h1];cases xv<;>first|exact aD hk|exact bY a rfl (.cl (.v _)) hk
 |_=>exact aD hk
 exact aD hk
def Pc (b:ByteArray):RR (byteRows b) (Sim.byteRows b):=by
 unfold byteRows Sim.byteRows
 induction b.data.toList with
 |nil=>exact .nil
 |cons a as ih=>exact .cons (.cons (.v _) .nil) ih
def vT1 {t:TypeId} (a:dI C n h lim s) (c:LR (RV C) xs ys) (hk:gB (.s2b t) xs h n K=some r):iO C n h lim s (.s2b t) ys K r:=by
 rcases xs with _|⟨x,_|⟨x2,t⟩⟩
 exact aD hk;obtain⟨y,_,rfl,h1,h2⟩:=c.inv_cons;rw[h2.inv_nil];cases x with
 |v xv=>
  rw[jB h1];cases xv with
  |string b=>exact bY a rfl (.cl (Pc b).is) hk
  |_=>exact aD hk
 |_=>exact aD hk
 exact aD hk
def lI1 {f:Fn} {m:Nat} (g:dI C n h lim s) (e:LR (RV C) xs ys) (hk:gB (.mkfn f m) xs h n K=some r):iO C n h lim s (.mkfn f m) ys K r:=by
 cases f with
 |func f=>
  have hk:tT m xs (fun a=>kR m xs fun b=>K (.fn f a b) h n)=some r:=by
   rcases xs with _|⟨a,_|⟨b,_|⟨c,t⟩⟩⟩<;>exact hk
  obtain⟨_,i⟩:=sB _ _ _ _ hk;obtain⟨_,j⟩:=gP _ _ _ _ i;have d:=e.take m;have hb:=e.drop m;refine bY g ?_ (.fn d.1 hb.1 d.2 hb.2) j;rcases ys with _|⟨a,_|⟨b,_|⟨c,t⟩⟩⟩<;>rfl
 |_=>rcases xs with _|⟨a,_|⟨b,_|⟨c,t⟩⟩⟩<;>exact aD hk
def dV1 (a:dI C n h lim s) (c:LR (RV C) xs ys) (hk:gB .mkmap xs h n K=some r):iO C n h lim s .mkmap ys K r:=by
 rcases xs with _|⟨x,t⟩
 have hk:K (.map n) ((n,.mp [])::h) (n+1)=some r:=hk;rw[c.inv_nil];have b:=nI a (.atp s.n 0 0 1);obtain⟨d,f,g⟩:=sD a (po:=.mp []) (ao:=.map []) (ver:=0) (e:=0) (len:=1) ⟨a.lim,by omega,[],by rw[gK,bK3 rfl],rfl,fun j x y h=>by simp at h⟩;exact⟨_,_,_,_,{v:=.map s.n,new:=some (.map [])},hk,rfl,.map (pK C n _),d,b,by omega,f,fun _=>g⟩;exact aD hk
def lJ1 {ty:TypeId} {e b:Nat} {zero:aA Value} (d:dI C n h lim s) (o:LR (RV C) xs ys) (hk:gB (.mksl ty e b zero) xs h n K=some r):iO C n h lim s (.mksl ty e b zero) ys K r:=by
 rcases xs with _|⟨x,_|⟨i,_|⟨x2,t⟩⟩⟩
 exact aD hk;exact aD hk;obtain⟨w,_,rfl,h1,h2⟩:=o.inv_cons;obtain⟨y,_,rfl,k,m⟩:=h2.inv_cons;rw[m.inv_nil];cases x with
 |v xv=>
  cases xv with
  |int k1 l=>
   cases i with
   |v iv=>
    cases iv with
    |int k2 c=>
     rw[jB h1,jB k];have hk:(bif iQ ty then none else wC (zero.map .v) (fun z=>cM (pF l c z) fun rows=>K (.own n) ((n,.lst ty e true rows)::h) (n+1)))=some r:=hk;cases hfx:iQ ty with
     |true=>rw[hfx]at hk;exact aD hk
     |false=>
     rw[hfx,cB3]at hk;have j:Hj ty=ty:=by simp[Hj,hfx]
     simp only[sA,cE,bD3,pF]at hk;obtain⟨rows,g,hk⟩:=hk;split at g;rename_i h0;cases g;have f:=nI d (.atp s.n 0 e l.toNat);have a:l.toNat<=c.toNat:=by omega
     obtain⟨p,q,u⟩:=sD d (po:=.lst ty e true (List.replicate l.toNat (zero.map .v))) (ao:=.arr false ty e 0 (List.replicate c.toNat (Sim.zeroRow zero))) (ver:=0) (e:=e) (len:=l.toNat)
      ⟨d.lim,by omega,rfl,by simp,_,by rw[gK,bK3 rfl,j],by
       rw[List.length_replicate,List.take_replicate,dJ3 a];exact RR.replicate (LR.zeroP zero) _,⟨by simpa using a,.zero zero⟩,fun h=>by cases h⟩
     refine⟨_,_,_,_,{v:=.sl e s.n 0 0 l.toNat none,new:=some (.arr false ty e 0 (List.replicate c.toNat (Sim.zeroRow zero)))},hk,?_,.own (pK C n _),p,f,by omega,q,fun _=>u⟩;simp only[doOp,Sim.intOf];rw[bK3 h0];cases g
    |_=>exact aD hk
   |_=>exact aD hk
  |_=>cases i with
   |v iv=>cases iv<;>exact aD hk
   |_=>exact aD hk
 |_=>cases i with
  |v iv=>cases iv<;>exact aD hk
  |_=>exact aD hk
 exact aD hk
end
end Go.P
namespace Go.P
open Go.Sim (AV AO Hp iJ upd St IC IX Ex hZ CK Wf Out doOp)
section
variable {R:Type} {C:Cx} {n:Nat} {h:aS} {lim:Nat} {s:Hp} {k:hZ} {xs:List PV} {ys:List AV} {K:PV->aS->Nat->Option R} {r:R}
def Lg {lo hi:Bool} {len:Nat} {c:aA PV} {K:Int->Int->aB R} {a:aA AV} (b:LR (RV C) c a) (hk:Cm lo hi len c K=some r):∃l q,Sim.bounds lo hi len a=some (l,q)/\K l q=some r:=by
 unfold Cm at hk;split at hk;rw[b.inv_nil];exact⟨_,_,rfl,hk⟩;obtain⟨y,_,rfl,h1,h2⟩:=b.inv_cons;rw[h2.inv_nil,jB h1];exact⟨_,_,rfl,hk⟩;obtain⟨y,_,rfl,h1,h2⟩:=b.inv_cons;rw[h2.inv_nil,jB h1];exact⟨_,_,rfl,hk⟩;obtain⟨y,_,rfl,h1,h2⟩:=b.inv_cons;obtain⟨f,_,rfl,d,e⟩:=h2.inv_cons;rw[e.inv_nil,jB h1,jB d];exact⟨_,_,rfl,hk⟩;exact aD hk
def vU1 {e:Nat} {lo hi mx:Bool} (k:dI C n h lim s) (o:LR (RV C) xs ys) (hk:gB (.slc e lo hi mx) xs h n K=some r):iO C n h lim s (.slc e lo hi mx) ys K r:=by
 rcases xs with _|⟨x,bs⟩
 exact aD hk;obtain⟨y,a,rfl,h1,h2⟩:=o.inv_cons
 have hk:(bif mx then none else match(generalizing:=false) x with
  |.is e' rows=>bif Nat.beq e' e then Cm lo hi rows.length bs (fun l r=>cM (qW rows l r) fun rows=>K (.is e rows) h n)else none
  |_=>none)=some r:=by
  rcases bs with _|⟨b,_|⟨c,t⟩⟩<;>exact hk
 cases mx with
 |true=>exact aD hk
 |false=>
  rw[cB3]at hk;cases x with
  |is e' rows=>
   simp only[bO]at hk;by_cases m:e'=e;subst m;rw[cJ3 rfl,bS3]at hk;obtain⟨l,q,hb,hk⟩:=Lg h2 hk;simp only[cE,bD3,qW]at hk;obtain⟨j,f,hk⟩:=hk;split at f;rename_i h0;cases f;rcases wI h1 with⟨rows',rfl,hr⟩|⟨rfl,hy⟩
   have hlen:=hr.1;refine bY k ?_ (.cl ((hr.drop l.toNat).take (q.toNat-l.toNat)).is) hk;have d:Sim.bounds lo hi rows'.length a=some (l,q):=by rw[<-hlen];exact hb
   have:Sim.sliceOp (Sim.look s.h) e' lo hi false (.is e' rows'::a)=some (.is e' ((rows'.drop l.toNat).take (q.toNat-l.toNat))):=by
    simp only[Sim.sliceOp];simp only[bQ3,cR3,d];rw[bK3 ⟨by trivial,h0.1,h0.2.1,by rw[<-hlen];exact h0.2.2⟩]
   rcases a with _|⟨b,_|⟨c,t⟩⟩<;>simp only[doOp,this,cE3];have g:l=0:=by simp at h0;omega
   have i:q=0:=by simp at h0;omega
   subst g;subst i;have d:Sim.bounds lo hi 0 a=some (0,0):=hb
   have:Sim.sliceOp (Sim.look s.h) e' lo hi false (y::a)=some y:=by
    subst hy;simp[Sim.sliceOp,d]
   refine bY (y:=y) k ?_ ?_ hk;rcases a with _|⟨b,_|⟨c,t⟩⟩<;>simp only[doOp,this,cE3]
   grind
   cases f
   grind
  |_=>exact aD hk
def Jd {k:CK} {a b:PV} {a' b':AV} (c:RC false a a') (hb:RC false b b') {q:Bool} (h:xP k a b=some q):Sim.cellEq k a' b'=some q:=by
 unfold xP at h;split at h;cases c;cases hb;exact h;cases c;cases hb;exact h;cases c;cases hb;exact h;cases h
def wK:∀{ks:aA CK} {as e:aA PV} {c d:aA AV},LR (RC false) as c->LR (RC false) e d->∀{q:Bool},pG ks as e=some q->Sim.cellsEq ks c d=some q
 |[],[],[],c,d,ha,hb,q,h=>by rw[ha.inv_nil,hb.inv_nil];exact h
 |k::ks,a::as,b::e,c,d,ha,hb,q,h=>by
  obtain⟨y,ys,rfl,h1,h2⟩:=ha.inv_cons
  obtain⟨z,zs,rfl,f,g⟩:=hb.inv_cons
  simp only[pG]at h
  simp only[Sim.cellsEq]
  split at h
  rename_i he;rw[Jd h1 f he];exact wK h2 g h
  rename_i he;rw[Jd h1 f he];exact h
  cases h
 |[],_::_,_,_,_,_,_,_,h=>by cases h
 |[],[],_::_,_,_,_,_,_,h=>by cases h
 |_::_,[],_,_,_,_,_,_,h=>by cases h
 |_::_,_::_,[],_,_,_,_,_,h=>by cases h
def Td {p:Bool} {cs:aA PV} {y:AV} (h:RC p (.agg cs) y):∃cs',y=.agg cs'/\LR (RC false) cs cs':=by
 cases h with|agg a b=>exact⟨_,rfl,a,b⟩
def Pd {agg:Bool} {ks:aA CK} {a b:PV} {a' b':AV} (c:RC false a a') (hb:RC false b b') {q:Bool} (h:zW agg ks a b=some q):Sim.keyEq agg ks a' b'=some q:=by
 unfold zW at h;unfold Sim.keyEq;cases agg with
 |true=>
  simp only[cF3]at h ⊢;split at h;obtain⟨x,rfl,h1⟩:=Td c;obtain⟨y,rfl,h2⟩:=Td hb;simp only;split at h;rename_i hc;rw[bK3 ⟨by rw[<-h1.1];exact hc.1,by rw[<-h2.1];exact hc.2⟩];exact wK h1 h2 h;cases h;cases h
 |false=>
  simp only[bQ3,cR3]at h ⊢;exact wK (.cons c .nil) (.cons hb .nil) h
def ER.nil:ER [] []:=⟨rfl,fun j x y h=>by simp at h⟩
def ER.inv_cons {x:PV×PV} {es:aA (PV×PV)} {es':aA (AV×AV)} (h:ER (x::es) es'):∃y t,es'=y::t/\RC false x.1 y.1/\RC false x.2 y.2/\ER es t:=by
 cases es' with
 |nil=>have:=h.1;simp at this
 |cons y t=>exact⟨y,t,rfl,(h.2 0 x y rfl rfl).1,(h.2 0 x y rfl rfl).2,by have:=h.1;simpa using this,fun j a b c hb=>h.2 (j+1) a b (by simpa using c) (by simpa using hb)⟩
def Co {agg:Bool} {ks:aA CK} {k:PV} {k':AV} (hk:RC false k k'):∀{es:aA (PV×PV)} {es':aA (AV×AV)} {i:Nat} {o:aB (Nat×PV)},ER es es'->xQ agg ks k es i=some o->
  ∃o',Sim.findKey agg ks k' es' i=some o'/\((o=none/\o'=none)\/∃j x y,o=some (j,x)/\o'=some (j,y)/\RC false x y)
 |[],es',i,o,he,h=>by
  have:es'=[]:=by have:=he.1;simpa using this.symm
  subst this
  simp only[xQ,bL3]at h
  exact⟨none,rfl,.inl ⟨h.symm,rfl⟩⟩
 |(a,x)::es,es',i,o,he,h=>by
  obtain⟨⟨b,y⟩,t,rfl,h1,h2,d⟩:=he.inv_cons
  simp only[xQ]at h
  simp only[Sim.findKey]
  split at h
  rename_i c
  rw[Pd hk h1 c]
  cases h
  exact⟨_,rfl,.inr ⟨i,x,y,rfl,rfl,h2⟩⟩
  rename_i c
  rw[Pd hk h1 c]
  exact Co hk d h
  cases h
def rB {agg:Bool} {ks:aA CK} {k:PV} {k':AV} (hk:RC false k k') (h:zX agg ks k=true):Sim.keyOK agg ks k'=true:=by
 unfold zX at h;split at h;obtain⟨cs',rfl,hl⟩:=Td hk;simp only[bF3,dU3]at h;simp[Sim.keyOK,<-hl.1,h.2];cases hk;simp only[bW3]at h;subst h;rfl;cases h
def Ae {x:PV} {y:AV} (h:RV C x y):∀{d:Nat},eE d x=true->RC false x y:=by
 induction h with
 |cl h=>intro d _;exact h
 |fn h1 h2 v1 v2 i1 i2=>
  intro d hd;cases d with
  |zero=>simp[eE]at hd
  |succ d=>
   simp only[eE,bF3,bJ3]at hd;exact .fn h1 h2 (fun j x y a b=>i1 j x y a b (hd.1 x (bO3 a))) (fun j x y a b=>i2 j x y a b (hd.2 x (bO3 a)))
 |agg hl hc ih=>
  intro d hd;cases d with
  |zero=>simp[eE]at hd
  |succ d=>
   simp only[eE,bJ3]at hd;exact .agg hl (fun j x y a b=>ih j x y a b (hd x (bO3 a)))
 |tup hl hc ih=>
  intro d hd;cases d with
  |zero=>simp[eE]at hd
  |succ d=>
   simp only[eE,bJ3]at hd;exact .tup hl (fun j x y a b=>ih j x y a b (hd x (bO3 a)))
 |_=>intro d hd;cases d<;>simp[eE]at hd
def Zd {agg ok:Bool} {ks:aA CK} {zero:AV} (g:dI C n h lim s) (D:LR (RV C) xs ys) (hk:gB (.lookup agg ks zero ok) xs h n K=some r):iO C n h lim s (.lookup agg ks zero ok) ys K r:=by
 rcases xs with _|⟨m,_|⟨k,_|⟨x2,t⟩⟩⟩
 exact aD hk;exact aD hk;obtain⟨w,_,rfl,h1,h2⟩:=D.inv_cons;obtain⟨E,_,rfl,A,B⟩:=h2.inv_cons;rw[B.inv_nil];cases hz:zero with
 |v z=>
  subst hz
  have key:∀(es:aA (PV×PV)) (es':aA (AV×AV)),ER es es'->Sim.entsOf (Sim.look s.h) w=some es'->
    (bif eE 2 k then(bif ok then cM (xR agg ks (.v z) k es) (fun r=>K (.tup [r.1,.v (.bool r.2)]) h n)else cM (wG agg ks (.v z) k es) fun r=>K r h n)else none)=some r->iO C n h lim s (.lookup agg ks (.v z) ok) [w,E] K r:=by
   intro es es' he f hk;cases hcl:eE 2 k with
   |false=>rw[hcl]at hk;exact aD hk
   |true=>
   rw[hcl,bS3]at hk;have b:=Ae A hcl;cases ok with
   |true=>
    simp only[bS3,cE,bD3,xR]at hk;obtain⟨q,d,hk⟩:=hk;split at d;rename_i c;simp only[bH3]at d;obtain⟨o,p,rfl⟩:=d;obtain⟨o',i,u⟩:=Co b he p;rcases u with⟨rfl,rfl⟩|⟨j,x,y,rfl,rfl,hxy⟩
    refine bY g (y:=.tup [.v z,.v (.bool false)]) ?_ ?_ hk;simp[doOp,rB b c,f,i];exact .tup rfl (LR.cons (.cl (.v z)) (.cons (.cl (.v _)) .nil)).2;refine bY g (y:=.tup [y,.v (.bool true)]) ?_ ?_ hk;simp[doOp,rB b c,f,i];exact .tup rfl (LR.cons (.cl hxy) (.cons (.cl (.v _)) .nil)).2;cases d
   |false=>
    simp only[cB3,cE,bD3,wG]at hk;obtain⟨q,d,hk⟩:=hk;split at d;rename_i c;simp only[bH3]at d;obtain⟨o,p,rfl⟩:=d;obtain⟨o',i,u⟩:=Co b he p;rcases u with⟨rfl,rfl⟩|⟨j,x,y,rfl,rfl,hxy⟩
    refine bY g (y:=.v z) ?_ (.cl (.v z)) hk;simp[doOp,rB b c,f,i];refine bY g (y:=y) ?_ (.cl hxy) hk;simp[doOp,rB b c,f,i];cases d
  unfold gB at hk;simp only at hk;cases m with
  |im es=>
   obtain⟨es',rfl,he⟩:=Vq h1;exact key es es' he rfl hk
  |map j=>
   simp only[iN,bD3]at hk;obtain⟨ob,hg,hk⟩:=hk;cases ob with
   |mp es=>
    obtain⟨id,ver,e,len,l,rfl⟩:=Fp h1;obtain⟨_,es',f,he⟩:=Vr g hg l;exact key es es' he.er (by simp[Sim.entsOf,f]) hk
   |_=>exact aD hk
  |zm es=>
   rcases sS1 h1 with⟨id,es',rfl,l,he⟩|⟨rfl,rfl⟩
   exact key es es' he.er (by simp[Sim.entsOf,(g.hr.zr id _ l).1]) hk;exact key [] [] ⟨rfl,fun j x y a=>by simp at a⟩ rfl hk
  |_=>exact aD hk
 |_=>subst hz;exact aD hk
 exact aD hk
def sU1 {x:PV} {y:AV} (h:RV C x y) (hp:Sx x=true):RK x y:=by
 cases x with
 |agg cs=>
  obtain⟨cs',rfl,hl⟩:=qP h;exact .inr ⟨cs,cs',rfl,rfl,hl.plain hp⟩
 |_=>exact .inl (h.plain hp)
def dW1 {agg:Bool} {ks:aA CK} (D:dI C n h lim s) (P:LR (RV C) xs ys) (hk:gB (.mapup agg ks) xs h n K=some r):iO C n h lim s (.mapup agg ks) ys K r:=by
 rcases xs with _|⟨m,_|⟨k,_|⟨x,_|⟨x2,t⟩⟩⟩⟩
 exact aD hk;exact aD hk;exact aD hk;obtain⟨U,_,rfl,h1,h2⟩:=P.inv_cons;obtain⟨w,_,rfl,H,J⟩:=h2.inv_cons;obtain⟨y,_,rfl,L,M⟩:=J.inv_cons;rw[M.inv_nil];cases m with
 |map j=>
  have hk:hK h j (fun ob=>match ob with
   |.mp es=>bif Sx k&&Sx x then cM (Ff agg ks k x es) fun es=>iT h j (.mp es) fun h=>K .undef h n else none
   |_=>none)=some r:=hk
  simp only[iN,bD3]at hk;obtain⟨ob,hg,hk⟩:=hk;cases ob with
  |mp es=>
   by_cases g:(Sx k&&Sx x)=true;simp only[g,bS3,cE,bD3,Ff]at hk;simp only[bF3]at g;obtain⟨d,hp,hk⟩:=hk;have G:=eF _ _ _ _ _ hk;obtain⟨id,ver,e,len,z,rfl⟩:=Fp h1;obtain⟨f,es',B,he⟩:=Vr D hg z;have hid:=(D.hr.lt (by rw[hg];simp) z).2;have F:=sU1 H g.1;have R:=sU1 L g.2;have q:=F.rc;split at hp;rename_i u;simp only[bH3]at hp;obtain⟨o,O,rfl⟩:=hp;obtain⟨o',q1,q2⟩:=Co q he.er O
   have fin:∀(d:aA (PV×PV)) (c:aA (AV×AV)),EM d c->K .undef (cZ h j (.mp d)) n=some r->doOp (Sim.look s.h) lim s.n (.mapup agg ks) [.map id,w,y]=some {v:=.undef,up:=some (id,.map c)}->iO C n h lim s (.mapup agg ks) [.map id,w,y] K r:=by
    intro d c E A hd;obtain⟨S,T⟩:=tX D (po':=.mp d) (ao:=.map c) hg z ⟨f,hid,c,by rw[Sim.look_upd];simp[B],E⟩ rfl;exact⟨_,_,_,_,_,A,hd,.undef,S,.refl _,bI3 _,T,fun N=>by cases N⟩
   rcases q2 with⟨rfl,rfl⟩|⟨i,x0,y0,rfl,rfl,hxy⟩
   refine fin _ (es'++[(w,y)]) ⟨by simp[he.1],fun i a b p hb=>?_⟩ G ?_;rw[dE3]at p hb;rw[<-he.1]at hb;split at p;rename_i hi;rw[bK3 hi]at hb;exact he.2 i a b p hb
   grind
   simp only[doOp,B];rw[bK3 ⟨f,rB q u⟩,q1];refine fin _ (es'.set i (w,y)) ⟨by simp[he.1],fun l a b p hb=>?_⟩ G ?_;rw[cA3]at p hb;split at p
   grind
   rename_i hi;rw[bM3 hi]at hb;exact he.2 l a b p hb;simp only[doOp,B];rw[bK3 ⟨f,rB q u⟩,q1];cases hp
   grind
  |_=>exact aD hk
 |_=>exact aD hk
 exact aD hk
def vV1 {kd:Nat} (a:dI C n h lim s) (i:LR (RV C) xs ys) (hk:gB (.len kd) xs h n K=some r):iO C n h lim s (.len kd) ys K r:=by
 rcases xs with _|⟨x,_|⟨x2,t⟩⟩
 exact aD hk;obtain⟨y,_,rfl,h1,h2⟩:=i.inv_cons;rw[h2.inv_nil];unfold gB at hk;simp only[bO]at hk;split at hk;rename_i e rows;by_cases c:kd=0;subst c;simp only[dD3,bS3,cE,bE3]at hk;rcases Vp h1 with⟨rows',rfl,hr⟩|⟨rfl,rfl|rfl⟩
 exact bY a (by simp[doOp,<-hr.1]) (.cl (.v _)) hk;exact bY a rfl (.cl (.v _)) hk;exact bY a rfl (.cl (.v _)) hk
 grind
 rename_i k;by_cases c:kd=0;subst c;simp only[dD3,bS3,iN,bD3]at hk;obtain⟨ob,hg,hk⟩:=hk;cases ob with
 |lst ty e g rows=>
  simp only[cE,bE3]at hk;rcases lA h1 with⟨id,ver,f,len,b,rfl⟩|⟨b,hy⟩
  obtain⟨_,_,hlen,_⟩:=lZ a hg b;subst hlen;exact bY a rfl (.cl (.v _)) hk;have:=nO a hg b;subst this;rcases hy with rfl|rfl;exact bY a rfl (.cl (.v _)) hk;exact bY a rfl (.cl (.v _)) hk
 |lz ty e dp rows=>
  simp only[cE,bE3]at hk;rcases lA h1 with⟨id,ver,f,len,b,rfl⟩|⟨b,hy⟩
  obtain⟨_,_,_,hlen,_⟩:=Fs a hg b;subst hlen;exact bY a rfl (.cl (.v _)) hk;have:=Ft a hg b;subst this;rcases hy with rfl|rfl;exact bY a rfl (.cl (.v _)) hk;exact bY a rfl (.cl (.v _)) hk
 |fl fs=>
  rcases lA h1 with⟨id,ver,f,len,b,rfl⟩|⟨b,hy⟩
  obtain⟨_,_,hlen,_⟩:=dP1 a hg b;subst hlen;exact bY a rfl (.cl (.v _)) hk;exact(dQ1 a hg b).elim
 |tr t rows hs=>
  obtain⟨ty,e2,ks⟩:=t;simp only[cE,bE3]at hk;rcases lA h1 with⟨id,ver,f,len,b,rfl⟩|⟨b,hy⟩
  obtain⟨_,_,_,hlen,_⟩:=mU a hg b;subst hlen;exact bY a rfl (.cl (.v _)) hk;have:=(tZ a hg b).1;subst this;rcases hy with rfl|rfl;exact bY a rfl (.cl (.v _)) hk;exact bY a rfl (.cl (.v _)) hk
 |_=>exact aD hk
 grind
 rename_i d e rows;by_cases c:kd=0;subst c;simp only[dD3,bS3,cE,bE3]at hk;rcases Jb (Ja h1)with(⟨rows',rfl,hr⟩|⟨rfl,rfl⟩)|⟨d',id,ver,ty,els,_,rfl,_,_,_⟩
 exact bY a (by simp[doOp,<-hr.1]) (.cl (.v _)) hk;exact bY a rfl (.cl (.v _)) hk;exact bY a rfl (.cl (.v _)) hk
 grind
 by_cases c:kd=0;subst c;rw[jB h1];exact bY a rfl (.cl (.v _)) hk
 grind
 by_cases c:kd=1;subst c;rw[jB h1];exact bY a rfl (.cl (.v _)) hk
 grind
 exact aD hk;exact aD hk
def Pe {mx:Bool} {k:IntKind}:∀{xs:aA PV} {ys:aA AV} {a:Int} {K:Int->aB R},LR (RV C) xs ys->mnK mx k a xs K=some r->∃b,(if mx then Sim.foldMx k a ys else Sim.foldMn k a ys)=some b/\K b=some r
 |[],ys,a,K,hx,h=>by
  rw[hx.inv_nil]
  cases mx<;>exact⟨a,rfl,h⟩
 |x::xs,ys,a,K,hx,h=>by
  obtain⟨y,g,rfl,h1,h2⟩:=hx.inv_cons
  cases x with
  |v xv=>
   cases xv with
   |int k' b=>
    have h:(bif kEq k k' then mnK mx k (bif mx then(if b>a then b else a)else(if b<a then b else a)) xs K else none)=some r:=h
    rw[Le]at h
    by_cases e:k=k'
    rw[cJ3 e,bS3]at h
    obtain⟨c,d,f⟩:=Pe h2 h
    refine⟨c,?_,f⟩
    rw[jB h1]
    cases mx
    simpa[Sim.foldMn,e]using d
    simpa[Sim.foldMx,e]using d
    grind
   |_=>exact aD h
  |_=>exact aD h
def zU1 (f:dI C n h lim s) (g:LR (RV C) xs ys) (hk:gB .mx xs h n K=some r):iO C n h lim s .mx ys K r:=by
 rcases xs with _|⟨x,t⟩
 exact aD hk;obtain⟨y,d,rfl,h1,h2⟩:=g.inv_cons
 have hk:(match(generalizing:=false) x with
  |.v (.int k a)=>mnK true k a t (fun r=>K (.v (.int k r)) h n)
  |_=>none)=some r:=by rcases t with _|⟨b,_|⟨c,t⟩⟩<;>exact hk
 cases x with
 |v xv=>
  cases xv with
  |int k a=>
   obtain⟨b,e,i⟩:=Pe h2 hk;rw[jB h1];refine bY f ?_ (.cl (.v _)) i;simp only[cF3]at e;rcases d with _|⟨b,_|⟨c,t⟩⟩<;>simp only[doOp,e,cE3]
  |_=>exact aD hk
 |_=>exact aD hk
def vW1 {i:Nat} (b:dI C n h lim s) (d:LR (RV C) xs ys) (hk:gB (.ext i) xs h n K=some r):iO C n h lim s (.ext i) ys K r:=by
 rcases xs with _|⟨x,_|⟨x2,t⟩⟩
 exact aD hk;obtain⟨y,_,rfl,h1,h2⟩:=d.inv_cons;rw[h2.inv_nil];cases x with
 |tup vs=>
  have hk:kR i vs (fun vs=>match vs with
   |v::_=>K v h n
   |[]=>none)=some r:=hk
  obtain⟨e,a⟩:=gP _ _ _ _ hk;obtain⟨cs',rfl,hl⟩:=Fo h1;cases hd:vs.drop i with
  |nil=>rw[hd]at a;exact aD a
  |cons c t=>
   rw[hd]at a;obtain⟨y,hy,hv⟩:=hl.get (Ab hd);exact bY b (by simp[doOp,hy]) hv a
 |_=>exact aD hk
 exact aD hk
end
end Go.P
namespace Go.P
open Go.Sim (AV AO Hp iJ upd St IC IX Ex hZ CK Wf Out doOp)
def yC {α:Type}:∀(l:aA α) (o:Nat) (cs:aA α),o+cs.length<=l.length->Sim.setL l o cs=l.take o++cs++l.drop (o+cs.length)
 |[],o,cs,h=>by
  have h1:cs=[]:=by
   cases cs with
   |nil=>rfl
   |cons a as=>simp at h
  subst h1;simp[Sim.setL]
 |a::l,0,[],h=>by simp[Sim.setL]
 |a::l,0,c::cs,h=>by
  simp only[Sim.setL,List.set_cons_zero];rw[rA,yC l 0 cs (by simp at h ⊢;omega)];simp
 |a::l,o+1,cs,h=>by
  rw[rA,yC l o cs (by simp at h ⊢;omega)];simp[Nat.add_right_comm]
def uW (e:Nat):∀(m i:Nat) (cells xs:aA AV) (a:aA (aA AV)),cells.length=(i+m)*e->xs.length=m->a.length=m->
  (∀(j:Nat) (x:AV),xs[j]? =some x->∃cs,x.cells=some cs/\cs.length=e/\a[j]? =some cs)->
  Sim.fillParts cells ((List.range' i m).map fun i=>(i*e,e)) xs=some (cells.take (i*e)++a.flatten)
 |0,i,cells,xs,a,h1,h2,h3,h4=>by
  have g:xs=[]:=by simpa using h2
  have e2:a=[]:=by simpa using h3
  subst g;subst e2
  simp only[List.range'_zero,eR3,Sim.fillParts,List.flatten_nil,eA3]
  rw[cU3 (by rw[h1];simp)]
 |m+1,i,cells,xs,a,h1,h2,h3,h4=>by
  match xs,a,h2,h3 with
  |x::xs,cs0::a,h2,h3=>
   obtain⟨cs,k,d,f⟩:=h4 0 x rfl
   simp at f
   subst f
   simp only[List.range'_succ,dV3,Sim.fillParts,k]
   have b:i*e+e<=cells.length:=by
    rw[h1];have:(i+1)*e<=(i+(m+1))*e:=cN3 _ (by omega);rw[dL3,Nat.one_mul]at this;exact this
   rw[bK3 ⟨d,b⟩];have hs:=yC cells (i*e) cs0 (by rw[d];exact b)
   have hlen:(Sim.setL cells (i*e) cs0).length=cells.length:=by
    rw[hs];simp[d];omega
   rw[uW e m (i+1) _ xs a (by rw[hlen,h1];congr 1;omega) (by simpa using h2) (by simpa using h3) (fun j x h=>by
    obtain⟨c,q1,q2,q3⟩:=h4 (j+1) x (by simpa using h);exact⟨c,q1,q2,by simpa using q3⟩)]
   congr 1;rw[hs,fA3,<-List.append_assoc];congr 1
   have hl:(cells.take (i*e)++cs0).length=(i+1)*e:=by
    simp[d,dL3];omega
   rw[List.take_append_of_le_length (by rw[hl];exact bI3 _),cU3 (by rw[hl];exact bI3 _)]
def Vt (e:Nat):∀(a:aA (aA AV)),(∀c∈a,c.length=e)->(List.range a.length).map (fun i=>(a.flatten.drop (i*e)).take e)=a
 |[],_=>rfl
 |c::a,h=>by
  have hc:=h c (by simp)
  have ih:=Vt e a (fun c hc=>h c (by simp[hc]))
  rw[cM3,List.range_succ_eq_map,dV3,List.map_map]
  simp only[fB3,dA3,fA3]
  rw[List.take_append_of_le_length (by omega),cU3 (by omega)]
  congr 1
  refine Eq.trans (List.map_congr_left fun i _=>?_) ih
  simp only[Function.comp]
  rw[dO3,dS3,<-hc,<-dY3,List.drop_left]
def yD (l:aA AV):∀(m:aA Nat),(m.flatMap fun _=>l).length=m.length*l.length
 |[]=>by simp
 |a::m=>by
  rw[List.flatMap_cons,dI3,yD l m,cM3,dO3,dS3]
section
variable {R:Type} {C:Cx} {n:Nat} {h:aS} {lim:Nat} {s:Hp} {k:hZ} {xs:List PV} {ys:List AV} {K:PV->aS->Nat->Option R} {r:R}
def dX1 (d1 a:Nat):d1<=(bif Nat.blt d1 a then a else d1)/\a<=(bif Nat.blt d1 a then a else d1):=by
 by_cases h:d1<a;have hb:Nat.blt d1 a=true:=by simpa using h
 rw[hb];simp only[bS3];omega;have hb:Nat.blt d1 a=false:=by cases hb:Nat.blt d1 a with|false=>rfl|true=>exact absurd (by simpa using hb) h
 rw[hb];simp only[cB3];omega
def dY1 {x:PV} {y:AV} {d:Nat} {b:PV} (h:RV C x y) (hc:dE1 x=some (d,b)):RZ C.z d b y:=by
 have pl:∀{x:PV},RV C x y->iW x=true->RC true x y:=fun a hp=>by
  have:=(LR.cons a .nil).plain (xs:=[_]) (by simpa using hp);exact this.head
 unfold dE1 at hc;split at hc;cases hc;exact Ja h;rename_i a;cases hp:iW x with
 |true=>rw[hp]at hc;cases hc;exact RZ.of (pl h hp)
 |false=>rw[hp]at hc;cases hc
def Je:∀{cs:aA PV} {cs':aA AV} {d:Nat} {ys:aA PV},LR (RV C) cs cs'->Fh cs=some (d,ys)->LR (RZ C.z d) ys cs'
 |[],cs',d,ys,h,hc=>by
  rw[h.inv_nil];cases hc;exact .nil
 |x::xs,cs',d,ys,h,hc=>by
  obtain⟨y,c,rfl,h1,h2⟩:=h.inv_cons
  unfold Fh at hc
  split at hc
  rename_i d1 e a xs' b e2
  cases hc
  have m:=dX1 d1 a
  exact .cons (RZ.up m.1 (dY1 h1 b)) ((Je h2 e2).mono fun _ _ h=>RZ.up m.2 h)
  cases hc
def zV1 {R:Type} (d:Nat) (K:Nat->aB R):fD d K=K d:=by
 unfold fD;split<;>rfl
def Br (e:Nat):∀(xs:aA PV) (K:Nat->aA (aA PV)->aB R) (r:R),Fi e xs K=some r->∃dp rows,K dp rows=some r/\rows.length=xs.length/\
  ∀(j:Nat) (x:PV),xs[j]? =some x->∃cs,iL x=some cs/\∃d ys,Fh cs=some (d,ys)/\ys.length=e/\d<=dp/\rows[j]? =some ys
 |[],K,r,h=>⟨0,[],h,rfl,fun j x a=>by simp at a⟩
 |x::xs,K,r,h=>by
  simp only[Fi,mE,zV1,bD3]at h
  obtain⟨cs,h1,h2⟩:=h
  split at h2
  rename_i d ys f
  cases hb:Nat.beq ys.length e with
  |false=>rw[hb]at h2;cases h2
  |true=>
   rw[hb,bS3]at h2
   obtain⟨dp,rows,g,i,k⟩:=Br e xs _ r h2
   have m:=dX1 d dp
   refine⟨_,_,g,by simp[i],fun j l a=>?_⟩
   cases j with
   |zero=>simp at a;subst a;exact⟨cs,h1,d,ys,f,bV3 hb,m.1,rfl⟩
   |succ j=>
    simp at a
    obtain⟨cs',q1,c,b,q2,q3,q4,q5⟩:=k j l a
    exact⟨cs',q1,c,b,q2,q3,cH3 q4 m.2,by simpa using q5⟩
  cases h2
def Te {ty:TypeId} {e len:Nat} {zero:aA Value} {parts:aA Nat} (H:dI C n h lim s) (o:LR (RV C) xs ys) (hk:gB (.buildSl ty e len zero parts) xs h n K=some r):iO C n h lim s (.buildSl ty e len zero parts) ys K r:=by
 have hk:(bif Kz 0 parts&&(Nat.beq zero.length e&& !(iQ ty))then(bif Nat.beq parts.length len then bif xs.all dF1 then xS e xs fun rows=>bif Nat.beq rows.length len then K (.own n) ((n,.lst ty e false rows)::h) (n+1)else none else Fi e xs fun dp rows=>bif Nat.beq rows.length len then K (.own n) ((n,.lz ty e dp rows)::h) (n+1)else none else none)else none)=some r:=by
  rcases xs with _|⟨a,_|⟨b,_|⟨c,t⟩⟩⟩<;>exact hk
 by_cases hc:(Kz 0 parts&&(Nat.beq zero.length e&& !(iQ ty)))=true;rw[hc,bS3]at hk;simp only[bF3,bO,bN3]at hc hk;obtain⟨c1,c2,p⟩:=hc;have P:Hj ty=ty:=by simp only[bW3]at p;simp[Hj,p]
 have L:iQ ty=false:=by simpa using p
 by_cases c3:parts.length=len;rw[cJ3 c3,bS3]at hk
 have M:∃(po:dX) (rows:aA (aA PV)) (Q:PV->AV->Prop),K (.own n) ((n,po)::h) (n+1)=some r/\rows.length=len/\rows.length=xs.length/\
   (∀(j:Nat) (x:PV),xs[j]? =some x->∃cs,iL x=some cs/\∃r,rows[j]? =some r/\r.length=e/\∀cs',LR (RV C) cs cs'->LR Q r cs')/\
   ∀f:aA (aA AV),rows.length=f.length->(∀(i:Nat) (r:aA PV) (r':aA AV),rows[i]? =some r->f[i]? =some r'->LR Q r r')->
    gX (ext C n (.atp s.n 0 e len)) (Sim.look (.ob s.n (.arr false ty e 0 f)::s.h)) lim (s.n+1) po (.atp s.n 0 e len):=by
  cases hpl:xs.all dF1 with
  |true=>
   rw[hpl,bS3]at hk;obtain⟨rows,m,E,F⟩:=xZ e xs _ r hk;by_cases c4:rows.length=len;rw[cJ3 c4,bS3]at m;refine⟨_,rows,RC true,m,c4,E,fun j x o=>?_,fun f hl u=>?_⟩;obtain⟨cs,q1,q2,q3,q4⟩:=F j x o;exact⟨cs,q1,cs,q4,q2,fun cs' h=>h.plain q3⟩;exact⟨H.lim,by omega,rfl,c4.symm,f,by rw[gK,bK3 rfl,P],by rw[cU3 (by rw[hl];exact bI3 _)];exact⟨hl,u⟩,⟨by rw[hl];exact bI3 _,.exact (by rw[hl];exact bI3 _)⟩,fun _=>hl.symm⟩;rw[cI3 c4]at m;exact aD m
  |false=>
   rw[hpl,cB3]at hk;obtain⟨dp,rows,m,E,F⟩:=Br e xs _ r hk;by_cases c4:rows.length=len;rw[cJ3 c4,bS3]at m;refine⟨_,rows,RZ C.z dp,m,c4,E,fun j x o=>?_,fun f hl u=>?_⟩;obtain⟨cs,q1,d,T,q2,q3,q4,q5⟩:=F j x o;exact⟨cs,q1,T,q5,q3,fun cs' h=>(Je h q2).mono fun _ _ h=>RZ.up q4 h⟩;exact⟨H.lim,by omega,rfl,c4.symm,L,f,by rw[gK,bK3 rfl],hl,u⟩;rw[cI3 c4]at m;exact aD m
 obtain⟨po,rows,Q,m,c4,E,F,R⟩:=M;have hp:=Aa 0 parts c1;rw[c3]at hp;subst hp
 have D:∀(j:Nat) (x:AV),ys[j]? =some x->∃cs,x.cells=some cs/\cs.length=e/\∃r,rows[j]? =some r/\LR Q r cs:=by
  intro j y hy;have A:j<xs.length:=by rw[o.1];exact(bG3.1 hy).1
  obtain⟨cs,q1,G,q2,q3,q4⟩:=F j xs[j] (by simp);obtain⟨cs',p1,p2⟩:=pJ (o.2 j xs[j] y (by simp) hy) q1;have:=q4 cs' p2;exact⟨cs',p1,by rw[<-this.1];exact q3,G,q2,this⟩
 have q:∃f:aA (aA AV),f.length=ys.length/\∀(j:Nat) (x:AV),ys[j]? =some x->∃cs,x.cells=some cs/\cs.length=e/\f[j]? =some cs/\∃r,rows[j]? =some r/\LR Q r cs:=by
  refine⟨ys.map fun y=>(y.cells).getD [],by simp,fun j y hy=>?_⟩;obtain⟨cs,p1,p2,p3⟩:=D j y hy;exact⟨cs,p1,p2,by simp[hy,p1],p3⟩
 obtain⟨f,s1,S⟩:=q;have g:ys.length=len:=by rw[<-o.1,<-E,c4]
 have V:(Sim.zeroRow zero).length=e:=by simp[Sim.zeroRow,c2]
 have J:((List.range len).flatMap fun _=>Sim.zeroRow zero).length=len*e:=by
  rw[yD,V,List.length_range]
 have l:=uW e len 0 ((List.range len).flatMap fun _=>Sim.zeroRow zero) ys f (by rw[J];simp) g (by rw[s1,g]) (fun j x o=>by
  obtain⟨cs,p1,p2,p3,_⟩:=S j x o;exact⟨cs,p1,p2,p3⟩)
 simp only[fB3,List.take_zero,eZ3]at l
 have w:∀c∈f,c.length=e:=by
  intro c hc;obtain⟨j,U⟩:=bX3.1 hc;have A:j<ys.length:=by rw[<-s1];exact(bG3.1 U).1
  obtain⟨cs,p1,p2,p3,_⟩:=S j ys[j] (by simp);rw[U]at p3;cases p3;exact p2
 have k:=Vt e f w;rw[s1,g]at k
 have u:∀(j:Nat) (G:aA PV) (r1:aA AV),rows[j]? =some G->f[j]? =some r1->LR Q G r1:=by
  intro j G r1 O B;have A:j<ys.length:=by rw[<-s1];exact(bG3.1 B).1
  obtain⟨cs,p1,p2,p3,r2,p4,p5⟩:=S j ys[j] (by simp);rw[B]at p3;cases p3;rw[O]at p4;cases p4;exact p5
 have N:=nI H (.atp s.n 0 e len);obtain⟨W,X,Y⟩:=sD H (po:=po) (ao:=.arr false ty e 0 f) (ver:=0) (e:=e) (len:=len) (R f (by rw[c4,s1,g]) u);refine⟨_,_,_,_,{v:=.sl e s.n 0 0 len none,new:=some (.arr false ty e 0 f)},m,?_,.own (pK C n _),W,N,by omega,X,fun _=>Y⟩
 have:doOp (Sim.look s.h) lim s.n (.buildSl ty e len zero (List.range' 0 len)) ys=(Sim.fillParts ((List.range len).flatMap fun _=>Sim.zeroRow zero) ((List.range' 0 len).map fun i=>(i*e,e)) ys).map fun cs=>
  {v:=.sl e s.n 0 0 len none,new:=some (.arr false ty e 0 ((List.range len).map fun i=>(cs.drop (i*e)).take e))}:=by
  rcases ys with _|⟨a,_|⟨b,_|⟨c,t⟩⟩⟩<;>rfl
 rw[this,l];simp only[cE3];rw[k];rw[cI3 c3]at hk;exact aD hk;simp only[eW3]at hc;rw[hc]at hk;exact aD hk
def Fz {i:Int}:∀{m:Nat} {K:Nat->aB R} {r:R},Oq i m K=some r->∃j,j<m/\i=(j:Int)/\K j=some r
 |0,K,r,h=>by unfold Oq at h;exact aD h
 |m+1,K,r,h=>by
  unfold Oq at h
  rw[rZ]at h
  split at h
  rename_i e;exact⟨m,by omega,by simpa using e,h⟩
  obtain⟨j,h1,h2,a⟩:=Fz h;exact⟨j,by omega,h2,a⟩
def lK1 {len esz:Nat} (l:dI C n h lim s) (m:LR (RV C) xs ys) (hk:gB (.iadA len esz) xs h n K=some r):iO C n h lim s (.iadA len esz) ys K r:=by
 rcases xs with _|⟨p,_|⟨i,_|⟨x2,t⟩⟩⟩
 exact aD hk;exact aD hk;obtain⟨u,_,rfl,h1,h2⟩:=m.inv_cons;obtain⟨w,_,rfl,d,f⟩:=h2.inv_cons;rw[f.inv_nil];unfold gB at hk;simp only at hk;split at hk;rename_i i;split at hk;rename_i k o;obtain⟨j,q,a,b⟩:=Fz hk;clear hk;subst a;rw[jB d];obtain⟨id,ver,e,c,g,rfl⟩:=oD h1;refine bY (v:=.ref k (o+j*esz)) (y:=.ptr id ver 0 (o+j*esz)) l ?_ (.ref g) b;simp only[doOp,Sim.intOf];rw[bK3 ⟨by omega,by omega⟩];simp;exact aD hk;exact aD hk;exact aD hk
def Pf (g:dI C n h lim s) (j:LR (RV C) xs ys) (hk:gB k xs h n K=some r):iO C n h lim s k ys K r:=by
 cases k with
 |mov=>exact vM1 g j hk
 |nilc=>exact lG1 g j hk
 |box ty size=>exact vN1 g j hk
 |alloc ty zero=>exact dN1 g j hk
 |build zero parts=>exact dO1 g j hk
 |buildSl ty e len zero parts=>exact Te g j hk
 |loadS=>exact dR1 g j hk
 |loadA m=>exact dS1 g j hk
 |store m=>exact dT1 g j hk
 |fad off=>exact vO1 g j hk
 |iad e=>exact vP1 g j hk
 |iadA len esz=>exact lK1 g j hk
 |idxStr=>exact Zb g j hk
 |idxA len e agg=>exact lH1 g j hk
 |bin op=>exact vQ1 g j hk
 |eqB neg=>exact vR1 g j hk
 |eqA neg ks=>exact vS1 g j hk
 |un op=>exact zT1 g j hk
 |convI k=>exact dU1 g j hk
 |s2b t=>exact vT1 g j hk
 |mkfn f m=>exact lI1 g j hk
 |mkmap=>exact dV1 g j hk
 |mksl ty e b zero=>exact lJ1 g j hk
 |slc e lo hi mx=>exact vU1 g j hk
 |lookup agg ks zero ok=>exact Zd g j hk
 |mapup agg ks=>exact dW1 g j hk
 |len kd=>exact vV1 g j hk
 |mx=>exact zU1 g j hk
 |ext i=>exact vW1 g j hk
 |_=>rcases xs with _|⟨a,_|⟨b,_|⟨c,_|⟨d,t⟩⟩⟩⟩<;>exact aD hk
end
end Go.P
namespace Go.P
open Go.Sim (AV AO Hp iJ upd St IC IX Ex hZ CK Wf Out doOp lI Foot foot exec runOps fX wanted put jD)
def kK:hZ->Bool
 |.callF _|.callV=>true
 |_=>false
def mL (N:FuncId->Bool) (dr:Nat):hZ->Nat
 |.len kd=>bif Nat.beq kd 2 then 1 else 0
 |.loadS|.loadA _|.lookup .. |.slc .. |.b2s=>1
 |.box .. |.alloc .. |.buildSl .. |.mkmap|.mksl .. =>2
 |.callF f=>if N f then(if dr=5 then 6 else 4)else 3
 |.callV=>if dr=4 then 4 else 3
 |.store _|.mapup .. |.append .. |.copy _|.clear .. =>5
 |_=>0
inductive Tr (T:lI) (N:FuncId->Bool) (dr lim:Nat):List Sim.Op1->St->List Foot->St->Prop
 |nil {σ:St}:Tr T N dr lim [] σ [] σ
 |skip {o:Sim.Op1} {os:List Sim.Op1} {σ τ:St} {fs:List Foot} (hw:wanted σ.t o.guard=false) (h:Tr T N dr lim os {t:=put σ.t o.dst .undef,s:=σ.s} fs τ):Tr T N dr lim (o::os) σ ({}::fs) τ
 |op {o:Sim.Op1} {os:List Sim.Op1} {σ τ:St} {fs:List Foot} {xs:List AV} {out:Out} (hw:wanted σ.t o.guard=true) (he:Sim.evs σ.t o.xs=some xs) (hc:kK o.k=false)
   (hd:doOp (Sim.look σ.s.h) lim σ.s.n o.k xs=some out) (h:Tr T N dr lim os {t:=put σ.t o.dst out.v,s:=out.apply σ.s} fs τ):
   Tr T N dr lim (o::os) σ ({foot T o.k xs with al:=List.range' σ.s.n ((out.apply σ.s).n-σ.s.n)}::fs) τ
 |call {o:Sim.Op1} {os:List Sim.Op1} {σ τ:St} {fs:List Foot} {xs:List AV} {v:AV} (hw:wanted σ.t o.guard=true) (he:Sim.evs σ.t o.xs=some xs) (hc:kK o.k=true) (hk:mL N dr o.k=3\/mL N dr o.k=4) (hf:foot T o.k xs={all:=1,x:=true})
   (hs:∃D,∀d,D<=d->∀m,Sim.step T (exec T d) lim o.k xs {h:=σ.s.h,n:=m}=some (v,{h:=σ.s.h,n:=m})) (h:Tr T N dr lim os {t:=put σ.t o.dst v,s:=σ.s} fs τ):
   Tr T N dr lim (o::os) σ ({all:=1,x:=true}::fs) τ
 |ncall {o:Sim.Op1} {os:List Sim.Op1} {σ τ:St} {fs:List Foot} {xs:List AV} {v:AV} {s':Hp} (hw:wanted σ.t o.guard=true) (he:Sim.evs σ.t o.xs=some xs) (hc:kK o.k=true) (hf:(foot T o.k xs).all=2\/dr=0) (hk:dr≠0->mL N dr o.k=4)
   (hs:∃D,∀d,D<=d->Sim.step T (exec T d) lim o.k xs σ.s=some (v,s')) (hn:σ.s.n<=s'.n) (h:Tr T N dr lim os {t:=put σ.t o.dst v,s:=s'} fs τ):
   Tr T N dr lim (o::os) σ ({foot T o.k xs with al:=List.range' σ.s.n (s'.n-σ.s.n)}::fs) τ
 |xcall {o:Sim.Op1} {os:List Sim.Op1} {σ τ:St} {fs:List Foot} {xs:List AV} {v:AV} {s':Hp} (hw:wanted σ.t o.guard=true) (he:Sim.evs σ.t o.xs=some xs) (hc:kK o.k=true) (hk:mL N dr o.k=6) (hf:(foot T o.k xs).all=3)
   (hs:∃D,∀d,D<=d->∀hid,Sim.callX true (Sim.step T (exec T d) lim o.k xs) hid xs σ.s=some (v,s',[])) (hn:σ.s.n<=s'.n) (h:Tr T N dr lim os {t:=put σ.t o.dst v,s:=s'} fs τ):
   Tr T N dr lim (o::os) σ ({al:=List.range' σ.s.n (s'.n-σ.s.n),all:=1,x:=true}::fs) τ
section
variable {T:lI} {N:FuncId->Bool} {dr lim:Nat}
def Tr.append {as a:aA Sim.Op1} {σ τ υ:St} {fs b:aA Foot} (h:Tr T N dr lim as σ fs τ) (k:Tr T N dr lim a τ b υ):Tr T N dr lim (as++a) σ (fs++b) υ:=by
 induction h with
 |nil=>exact k
 |skip hw h ih=>exact .skip hw (ih k)
 |op hw he hc hd h ih=>exact .op hw he hc hd (ih k)
 |call hw he hc hk hf hs h ih=>exact .call hw he hc hk hf hs (ih k)
 |ncall hw he hc hf hk hs hn h ih=>exact .ncall hw he hc hf hk hs hn (ih k)
 |xcall hw he hc hk hf hs hn h ih=>exact .xcall hw he hc hk hf hs hn (ih k)
def Vu {ex:Nat->Bool->IC->St->aB (Ex×St)} {k:hZ} {xs:aA AV} {s:Hp} {out:Out} (hc:kK k=false) (hd:doOp (Sim.look s.h) lim s.n k xs=some out):Sim.step T ex lim k xs s=some (out.v,out.apply s):=by
 unfold Sim.step;split;simp[kK]at hc;simp[kK]at hc;rw[hd]
def Vv {k:hZ} (h:mL N dr k=6):dr=5:=by
 cases k
 case callF f=>simp only[mL]at h;split at h<;>(try split at h)<;>first|assumption|omega
 case len kd=>simp only[mL]at h;cases hk:Nat.beq kd 2<;>rw[hk]at h<;>simp at h
 all_goals simp[mL]at h
 all_goals (split at h<;>omega)
def Tr.run (e:dr=0) {os:aA Sim.Op1} {σ τ:St} {fs:aA Foot} (h:Tr T N dr lim os σ fs τ):∃D,∀d,D<=d->runOps T (exec T d) lim os σ=some τ:=by
 induction h with
 |nil=>exact⟨0,fun d _=>rfl⟩
 |skip hw h ih=>
  obtain⟨D,a⟩:=ih;refine⟨D,fun d hd=>?_⟩;simp only[runOps,hw];exact a d hd
 |op hw he hc hd h ih=>
  obtain⟨D,a⟩:=ih;refine⟨D,fun d c=>?_⟩;simp only[runOps,hw,cF3,he,Vu hc hd];exact a d c
 |@ncall o os σ τ fs xs v s' hw he hc hf hk hs hn h ih=>
  obtain⟨D,a⟩:=ih;obtain⟨D2,b⟩:=hs;refine⟨max D D2,fun d hd=>?_⟩;simp only[runOps,hw,cF3,he,b d (by omega)];exact a d (by omega)
 |xcall hw he hc hk hf hs hn h ih=>exact absurd (Vv hk) (by omega)
 |@call o os σ τ fs xs v hw he hc hk hf hs h ih=>
  obtain⟨D,a⟩:=ih;obtain⟨D2,b⟩:=hs;refine⟨max D D2,fun d hd=>?_⟩;simp only[runOps,hw,cF3,he];have:=b d (by omega) σ.s.n;rw[show({h:=σ.s.h,n:=σ.s.n}:Hp)=σ.s from rfl]at this;rw[this];exact a d (by omega)
def pL (c:Nat) (f:Foot):Prop:=
 f={}\/match c with
  |0=>f={}
  |1=>f.wr=[]/\f.al=[]/\f.all=0
  |2=>f.rd=[]/\f.wr=[]/\f.all=0
  |3=>f={all:=1,x:=true}
  |5=>f.all=0
  |6=>f.rd=[]/\f.wr=[]/\f.all=1/\f.x=true
  |_=>True
def iP (i j:Nat):Bool:=
 bif Nat.beq i 0 then !Nat.beq j 4 else bif Nat.beq j 0 then !Nat.beq i 4 else
  (Nat.ble i 3&&Nat.ble j 3&& !(Nat.beq i 3&&Nat.beq j 3)&& !(Nat.beq i 2&&(Nat.beq j 3||Nat.beq j 1)))||(Nat.beq i 5&&Nat.beq j 2)
def sH (i j:Nat):Bool:=(Nat.beq j 6&&(Nat.beq i 1||Nat.beq i 2))||(Nat.beq i 6&&Nat.beq j 2)
def nJ (i j:Nat):Bool:=Nat.beq i 0||Nat.beq j 0||iP i j||sH i j
def Tf {i j:Nat} {f g:Foot} (hi:i<=5) (b:j<=5) (h:iP i j=true) (hf:pL i f) (hg:pL j g):Sim.compat0 f g=true:=by
 unfold pL at hf hg;have k:∀g:Foot,g.all<=1->Sim.compat0 {} g=true:=fun g hg=>by simp[Sim.compat0,hg]
 have d:∀f:Foot,f.all<=1->Sim.compat0 f {}=true:=fun f hf=>by simp[Sim.compat0,hf]
 have e:i≠4:=by rintro rfl;(match j,b,h with|0,_,h|1,_,h|2,_,h|3,_,h|4,_,h|5,_,h=>simp[iP]at h)
 have a:j≠4:=by rintro rfl;(match i,hi,h with|0,_,h|1,_,h|2,_,h|3,_,h|4,_,h|5,_,h=>simp[iP]at h)
 have a1:∀{c:Nat} {f:Foot},c<=5->c≠4->(f={}\/match c with
  |0=>f={}
  |1=>f.wr=[]/\f.al=[]/\f.all=0
  |2=>f.rd=[]/\f.wr=[]/\f.all=0
  |3=>f={all:=1,x:=true}
  |5=>f.all=0
  |6=>f.rd=[]/\f.wr=[]/\f.all=1/\f.x=true
  |_=>True)->f.all<=1:=by grind
 have b1:=a1 hi e hf;have b2:=a1 b a hg;rcases hf with rfl|hf;exact k g b2;rcases hg with rfl|hg;exact d f b1
 have fin:f.wr=[]->g.wr=[]->f.al=[]\/(g.rd=[])->f.all+g.all<=1->Sim.compat0 f g=true:=by
  intro q1 q2 q3 q4;rcases q3 with q3|q3<;>simp[Sim.compat0,q1,q2,q3,q4]
 match i,hi,e,h,hf with
 |0,_,_,_,hf=>rw[hf];exact k g b2
 |1,_,_,h,hf=>
  obtain⟨p1,p2,p3⟩:=hf
  match j,b,a,h,hg with
  |0,_,_,_,hg=>rw[hg];exact d f b1
  |1,_,_,_,hg=>exact fin p1 hg.1 (.inl p2) (by rw[p3,hg.2.2];simp)
  |2,_,_,_,hg=>exact fin p1 hg.2.1 (.inl p2) (by rw[p3,hg.2.2];simp)
  |3,_,_,_,hg=>exact fin p1 (by rw[hg]) (.inl p2) (by rw[p3,hg];simp)
  |4,_,h4,_,_=>exact absurd rfl h4
  |5,_,_,h,_=>simp[iP]at h
 |2,_,_,h,hf=>
  obtain⟨p1,p2,p3⟩:=hf
  match j,b,a,h,hg with
  |0,_,_,_,hg=>rw[hg];exact d f b1
  |1,_,_,h,_=>simp[iP]at h
  |2,_,_,_,hg=>exact fin p2 hg.2.1 (.inr hg.1) (by rw[p3,hg.2.2];simp)
  |3,_,_,h,_=>simp[iP]at h
  |4,_,h4,_,_=>exact absurd rfl h4
  |5,_,_,h,_=>simp[iP]at h
 |3,_,_,h,hf=>
  match j,b,a,h,hg with
  |0,_,_,_,hg=>rw[hg];exact d f b1
  |1,_,_,_,hg=>exact fin (by rw[hf]) hg.1 (.inl (by rw[hf])) (by rw[hf,hg.2.2];simp)
  |2,_,_,_,hg=>exact fin (by rw[hf]) hg.2.1 (.inl (by rw[hf])) (by rw[hf,hg.2.2];simp)
  |3,_,_,h,_=>simp[iP]at h
  |4,_,h4,_,_=>exact absurd rfl h4
  |5,_,_,h,_=>simp[iP]at h
 |4,_,h1,_,_=>exact absurd rfl h1
 |5,_,_,h,hf=>
  match j,b,a,h,hg with
  |0,_,_,_,hg=>rw[hg];exact d f b1
  |1,_,_,h,_=>simp[iP]at h
  |2,_,_,_,hg=>
   obtain⟨p1,p2,p3⟩:=hg;have hf:f.all=0:=hf;simp[Sim.compat0,p1,p2,p3,hf]
  |3,_,_,h,_=>simp[iP]at h
  |4,_,h4,_,_=>exact absurd rfl h4
  |5,_,_,h,_=>simp[iP]at h
def Jf {i j:Nat} {f g:Foot} (hi:i<=6) (m:j<=6) (h:nJ i j=true) (hf:pL i f) (hg:pL j g):Sim.compat f g=true:=by
 simp only[nJ,bZ3]at h
 have left:i=0->Sim.compat f g=true:=by
  intro this;subst this;rcases hf with rfl|hf;rfl;have hf:f={}:=hf;subst hf;rfl
 have right:j=0->Sim.compat f g=true:=by
  intro this;subst this;have hg:g={}:=by rcases hg with hg|hg<;>exact hg
  subst hg;simp[Sim.compat,Sim.Foot.isE]
 rcases h with((h|h)|h)|h;simp_all;simp_all;by_cases l:i<=5/\j<=5;simp[Sim.compat,Tf l.1 l.2 h hf hg];rcases(by omega:i=6\/j=6)with rfl|rfl
 match j,m,h,right with
 |0,_,_,r=>exact r rfl
 |1,_,h,_|2,_,h,_|3,_,h,_|4,_,h,_|5,_,h,_|6,_,h,_=>simp[iP]at h
 match i,hi,h,left with
 |0,_,_,r=>exact r rfl
 |1,_,h,_|2,_,h,_|3,_,h,_|4,_,h,_|5,_,h,_|6,_,h,_=>simp[iP]at h
 simp only[sH,bZ3,bF3]at h
 have d:∀{f:Foot},pL 6 f->f={}\/(f.rd=[]/\f.wr=[]/\f.all=1):=fun h=>by
  rcases h with h|h;exact .inl h
  grind
 have e:∀g:Foot,Sim.compat {} g=true:=fun g=>rfl;have k:∀f:Foot,Sim.compat f {}=true:=fun f=>by simp[Sim.compat,Sim.Foot.isE]
 rcases h with⟨h1,h2⟩|⟨h1,h2⟩
 have h1:=bV3 h1;subst h1;rcases d hg with rfl|⟨a,b,c⟩
 exact k f;rcases hf with rfl|hf;exact e g;rcases h2 with h2|h2;have h2:=bV3 h2;subst h2;obtain⟨p1,p2,p3⟩:f.wr=[]/\f.al=[]/\f.all=0:=hf;simp[Sim.compat,Sim.compat0,a,b,c,p1,p2,p3];have h2:=bV3 h2;subst h2;obtain⟨p1,p2,p3⟩:f.rd=[]/\f.wr=[]/\f.all=0:=hf;simp[Sim.compat,Sim.compat0,a,b,c,p1,p2,p3];have h1:=bV3 h1;have h2:=bV3 h2;subst h1;subst h2;rcases d hf with rfl|⟨a,b,c⟩
 exact e g;rcases hg with rfl|hg;exact k f;obtain⟨p1,p2,p3⟩:g.rd=[]/\g.wr=[]/\g.all=0:=hg;simp[Sim.compat,Sim.compat0,a,b,c,p1,p2,p3]
def sI (N:FuncId->Bool) (dr:Nat) (k:hZ):mL N dr k<=6:=by
 cases k
 case len kd=>simp only[mL];cases Nat.beq kd 2<;>simp
 case callF f=>simp only[mL];split<;>(try split)<;>omega
 all_goals simp[mL]<;>split<;>omega
def dZ1 {N:FuncId->Bool} {dr:Nat} {k:hZ} (h:kK k=true):mL N dr k=3\/mL N dr k=4\/mL N dr k=6:=by
 cases k<;>simp[kK]at h<;>simp only[mL]<;>split<;>(try split)<;>simp
def sV1 {L:Nat->aB AO} {n:Nat} {k:hZ} {xs:aA AV} {out:Out} (h:doOp L lim n k xs=some out) (hk:mL N dr k<=1):out.new=none:=by
 have hc:∀{o:aB Out} {P:Prop},o=some out->(∀o',o=some o'->o'.new=none)->out.new=none:=fun h1 h2=>h2 _ h1;unfold doOp at h;split at h
 all_goals first|(simp[mL]at hk;done)|(simp only[mL]at hk;split at hk<;>omega)|skip
 all_goals (repeat' split at h)
 all_goals first|(cases h;done)|(cases h;rfl)|(simp only[bH3]at h;obtain⟨_,_,rfl⟩:=h;rfl)|skip
def uA {s:Hp} {out:Out} (h:out.new=none):List.range' s.n ((out.apply s).n-s.n)=[]:=by
 unfold Out.apply;rw[h];simp
end
end Go.P
namespace Go.P
open Go.Sim (AV AO Hp iJ upd St IC IX Ex hZ CK Wf Out doOp lI Foot foot exec runOps fX wanted put jD)
section
variable {T:lI} {N:FuncId->Bool} {dr lim:Nat}
def Vw {k:hZ} {xs:aA AV} {s:Hp} {out:Out} (hc:kK k=false) (hd:doOp (Sim.look s.h) lim s.n k xs=some out):
  pL (mL N dr k) {foot T k xs with al:=List.range' s.n ((out.apply s).n-s.n)}:=by
 have d:mL N dr k<=1->List.range' s.n ((out.apply s).n-s.n)=[]:=fun h=>uA (sV1 hd h);cases k
 case len kd=>
  cases hk:Nat.beq kd 2 with
  |true=>
   have hl:=d (by simp[mL,hk]);rw[hl,show mL N dr (.len kd)=1 by simp[mL,hk]];refine .inr ⟨?_,rfl,?_⟩<;>(rcases xs with _|⟨a,_|⟨b,t⟩⟩<;>rfl)
  |false=>
   have h0:=d (by simp[mL,hk]);refine .inl ?_;rw[h0];rcases xs with _|⟨a,_|⟨b,t⟩⟩<;>simp[foot,hk]
 all_goals first|(simp[kK]at hc;done)|skip
 all_goals first
  |exact .inr trivial
  |(refine .inr ?_;rcases xs with _|⟨a,_|⟨b,_|⟨c,t⟩⟩⟩<;>rfl)
  |(have h0:=d (cQ3 1);refine .inl ?_;rw[h0];rfl)
  |(have h0:=d (bI3 1);refine .inr ⟨?_,h0,?_⟩<;>(rcases xs with _|⟨a,_|⟨b,_|⟨c,t⟩⟩⟩<;>rfl))
  |exact .inr ⟨rfl,rfl,rfl⟩
def uO {c:Nat} (h:c=3\/c=4) (f:Foot) (hf:f={all:=1,x:=true}):pL c f:=by
 subst hf;rcases h with rfl|rfl;exact .inr rfl;exact .inr trivial
def Tr.feet (a:dr≠0) {os:aA Sim.Op1} {σ τ:St} {fs:aA Foot} (h:Tr T N dr lim os σ fs τ):fs.length=os.length/\∀(i:Nat) (o:Sim.Op1) (f:Foot),os[i]? =some o->fs[i]? =some f->pL (mL N dr o.k) f:=by
 induction h with
 |nil=>exact⟨rfl,fun i o f h=>by simp at h⟩
 |skip hw h ih=>
  refine⟨by simp[ih.1],fun i o f h1 h2=>?_⟩;cases i with
  |zero=>simp at h1 h2;subst h1;subst h2;exact .inl rfl
  |succ i=>simp at h1 h2;exact ih.2 i o f h1 h2
 |op hw he hc hd h ih=>
  refine⟨by simp[ih.1],fun i o f h1 h2=>?_⟩;cases i with
  |zero=>simp at h1 h2;subst h1;subst h2;exact Vw hc hd
  |succ i=>simp at h1 h2;exact ih.2 i o f h1 h2
 |@call o os σ τ fs xs v hw he hc hk hf hs h ih=>
  refine⟨by simp[ih.1],fun i o' f h1 h2=>?_⟩;cases i with
  |zero=>
   simp at h1 h2;subst h1;subst h2;exact uO hk _ rfl
  |succ i=>simp at h1 h2;exact ih.2 i o' f h1 h2
 |@ncall o os σ τ fs xs v s' hw he hc hf hk hs hn h ih=>
  refine⟨by simp[ih.1],fun i o' f h1 h2=>?_⟩;cases i with
  |zero=>
   simp at h1 h2;subst h1;subst h2;rw[hk a];exact .inr trivial
  |succ i=>simp at h1 h2;exact ih.2 i o' f h1 h2
 |@xcall o os σ τ fs xs v s' hw he hc hk hf hs hn h ih=>
  refine⟨by simp[ih.1],fun i o' f h1 h2=>?_⟩;cases i with
  |zero=>
   simp at h1 h2;subst h1;subst h2;rw[hk];exact .inr ⟨rfl,rfl,rfl,rfl⟩
  |succ i=>simp at h1 h2;exact ih.2 i o' f h1 h2
def kI {f g:Foot} (h:Sim.compat0 f g=true):Sim.compat f g=true:=by simp[Sim.compat,h]
def Lh (ks before:aA Nat):Bool:=
 (List.range ks.length).all fun j=>(List.range j).all fun i=>(before.getD j 0).testBit i||nJ (ks.getD i 4) (ks.getD j 4)
def Ga {a:Nat} {ft:Nat->Foot}:∀{j:Nat},(∀i,i<j->a.testBit i=true\/(ft i).al=[])->Sim.unseen a j (jD ft j)=[]
 |0,_=>rfl
 |j+1,h=>by
  simp only[jD,Sim.unseen,eI3]
  rw[Ga (fun i hi=>h i (by omega))]
  rcases h j (by omega)with h1|h1
  rw[bK3 h1];rfl
  rw[h1];simp
def yE {a:Nat} {f:Foot} {ft:Nat->Foot}:∀{j:Nat},(∀i,i<j->a.testBit i=true\/Sim.compat (ft i) f=true)->Sim.drawOK.okAgainst a f (jD ft j) j=true
 |0,_=>rfl
 |j+1,h=>by
  simp only[jD,Sim.drawOK.okAgainst,eI3,bF3,bZ3]
  exact⟨h j (by omega),yE (fun i hi=>h i (by omega))⟩
def Af {before:aA Nat} {ft:Nat->Foot}:∀{m:Nat},(∀j,j<m->∀i,i<j->(before.getD j 0).testBit i=true\/Sim.compat (ft i) (ft j)=true)->Sim.drawOK before (jD ft m) m=true
 |0,_=>rfl
 |m+1,h=>by
  simp only[jD,Sim.drawOK,eI3,bF3]
  exact⟨yE (h m (by omega)),Af (fun j a=>h j (by omega))⟩
def eA1 {ft:Nat->Foot}:∀{j:Nat},(∀i,i<j->(ft i).all=0\/(ft i).x=true)->Sim.nbF (jD ft j)=true
 |0,_=>rfl
 |j+1,h=>by
  have ih:=eA1 (j:=j) fun i hi=>h i (by omega)
  unfold Sim.nbF at ih ⊢
  rw[jD,dF3,ih,Bool.and_true]
  rcases h j (by omega)with h1|h1
  rw[h1];rfl
  rw[h1];simp
def eB1 (h:aA iJ):Sim.hide [] h=h:=rfl
def Tr.foot (F:dr≠0) {before ks:aA Nat}:∀{os:aA Sim.Op1} {σ τ:St} {fs:aA Foot},Tr T N dr lim os σ fs τ->∀(j:Nat) (ft:Nat->Foot),
  (∀(i:Nat),i<fs.length->fs[i]? =some (ft (j+i)))->(∀(i:Nat) (o:Sim.Op1),os[i]? =some o->ks[j+i]? =some (mL N dr o.k))->
  (∀(i l k k':Nat),i<l->ks[i]? =some k->ks[l]? =some k'->k'=3\/k'=4->(before.getD l 0).testBit i=true\/nJ k k'=true)->(∀i k,i<j->ks[i]? =some k->pL k (ft i))->(∀i,i<j->∃k,ks[i]? =some k/\k<=6)->(dr=5->∀(i k:Nat),ks[i]? =some k->k≠4)->
  ∃D,∀d,D<=d->fX T (exec T d) lim before os j (jD ft j) σ=some (τ,jD ft (j+os.length)):=by
 intro os σ τ fs h
 induction h with
 |nil=>intro j ft _ _ _ _ _ _;exact⟨0,fun d _=>rfl⟩
 |@skip o os σ τ fs hw h ih=>
  intro j ft h1 h2 y q r f;have p:ft j={}:=by have:=h1 0 (by simp);simpa using this.symm
  obtain⟨D,z⟩:=ih (j+1) ft (fun i hi=>by have:=h1 (i+1) (by simp;omega);simpa[cW3,dS3 1 i]using this) (fun i o A=>by have:=h2 (i+1) o (by simpa using A);simpa[cW3,dS3 1 i]using this) y
   (fun i k hi hk=>by
    by_cases e:i=j;subst e;rw[p];exact .inl rfl;exact q i k (by omega) hk)
   (fun i hi=>by
    by_cases e:i=j;subst e;exact⟨_,by have:=h2 0 o rfl;simpa using this,sI _ _ _⟩;exact r i (by omega)) f
  refine⟨D,fun d hd=>?_⟩;simp only[fX,hw];have:=z d hd;rw[jD,p]at this;rw[cM3,show j+(os.length+1)=j+1+os.length by omega];exact this
 |@op o os σ τ fs xs out hw he hc hd h ih=>
  intro j ft h1 h2 y q r f;have p:ft j={Sim.foot T o.k xs with al:=List.range' σ.s.n ((out.apply σ.s).n-σ.s.n)}:=by have:=h1 0 (by simp);simpa using this.symm
  obtain⟨D,z⟩:=ih (j+1) ft (fun i hi=>by have:=h1 (i+1) (by simp;omega);simpa[cW3,dS3 1 i]using this) (fun i o A=>by have:=h2 (i+1) o (by simpa using A);simpa[cW3,dS3 1 i]using this) y
   (fun i k hi hk=>by
    by_cases e:i=j;subst e;have:=h2 0 o rfl;rw[dN3,hk]at this;cases this;rw[p];exact Vw hc hd;exact q i k (by omega) hk)
   (fun i hi=>by
    by_cases e:i=j;subst e;exact⟨_,by have:=h2 0 o rfl;simpa using this,sI _ _ _⟩;exact r i (by omega)) f
  have L:(Sim.foot T o.k xs).all=0:=by
   cases hk:o.k<;>simp[hk,kK]at hc<;>(rcases xs with _|⟨a,_|⟨b,_|⟨c,t⟩⟩⟩<;>rfl)
  have E:¬(Sim.foot T o.k xs).all=1:=by omega
  have B:¬(Sim.foot T o.k xs).all=3:=by omega
  refine⟨D,fun d M=>?_⟩;simp only[fX,hw,cF3,he];rw[bM3 E,bM3 B,Vu hc hd];simp only;have:=z d M;rw[jD,p]at this;rw[cM3,show j+(os.length+1)=j+1+os.length by omega];exact this
 |@ncall o os σ τ fs xs v s' hw he hc hf hk hs hn h ih=>
  intro j ft h1 h2 y q r f;have p:ft j={Sim.foot T o.k xs with al:=List.range' σ.s.n (s'.n-σ.s.n)}:=by have:=h1 0 (by simp);simpa using this.symm
  obtain⟨D,z⟩:=ih (j+1) ft (fun i hi=>by have:=h1 (i+1) (by simp;omega);simpa[cW3,dS3 1 i]using this) (fun i o A=>by have:=h2 (i+1) o (by simpa using A);simpa[cW3,dS3 1 i]using this) y
   (fun i k hi w=>by
    by_cases e:i=j;subst e;have:=h2 0 o rfl;rw[dN3,w]at this;cases this;rw[p,hk F];exact .inr trivial;exact q i k (by omega) w)
   (fun i hi=>by
    by_cases e:i=j;subst e;exact⟨_,by have:=h2 0 o rfl;simpa using this,sI _ _ _⟩;exact r i (by omega)) f
  obtain⟨D2,u⟩:=hs;refine⟨max D D2,fun d hd=>?_⟩;simp only[fX,hw,cF3,he];have G:=hf.resolve_right F;rw[bM3 (by rw[G];omega),bM3 (by rw[G];omega),u d (by omega)];simp only;have:=z d (by omega);rw[jD,p]at this;rw[cM3,show j+(os.length+1)=j+1+os.length by omega];exact this
 |@call o os σ τ fs xs v hw he hc hk3 hf hs h ih=>
  intro j ft h1 h2 y q r f;have p:ft j={all:=1,x:=true}:=by have:=h1 0 (by simp);simpa using this.symm
  have C:ks[j]? =some (mL N dr o.k):=by
   have:=h2 0 o rfl;simpa using this
  obtain⟨D,z⟩:=ih (j+1) ft (fun i hi=>by have:=h1 (i+1) (by simp;omega);simpa[cW3,dS3 1 i]using this) (fun i o A=>by have:=h2 (i+1) o (by simpa using A);simpa[cW3,dS3 1 i]using this) y
   (fun i k hi hk=>by
    by_cases e:i=j;subst e;rw[C]at hk;cases hk;rw[p];exact uO hk3 _ rfl;exact q i k (by omega) hk)
   (fun i hi=>by
    by_cases e:i=j;subst e;exact⟨_,C,sI _ _ _⟩;exact r i (by omega)) f
  obtain⟨D2,u⟩:=hs
  have S:Sim.unseen (before.getD j 0) j (jD ft j)=[]:=by
   refine Ga (fun i hi=>?_);obtain⟨k,hk,J⟩:=r i hi;rcases y i j k _ hi hk C hk3 with f|f;exact .inl f;right;have g:=q i k hi hk
   have R:nJ k 3=true:=by
    rcases hk3 with e|e;rw[e]at f;exact f;rw[e]at f;(match k,J,f with|0,_,_=>rfl|1,_,h|2,_,h|3,_,h|4,_,h|5,_,h|6,_,h=>simp[nJ,iP,sH]at h)
   rcases g with g|g;rw[g]
   match k,J,R,g with
   |0,_,_,g=>rw[g]
   |1,_,_,g=>exact g.2.1
   |2,_,f,_=>simp[nJ,iP,sH]at f
   |3,_,_,g=>rw[g]
   |4,_,f,_=>simp[nJ,iP,sH]at f
   |5,_,f,_=>simp[nJ,iP,sH]at f
   |6,_,f,_=>simp[nJ,iP,sH]at f
  refine⟨max D D2,fun d hd=>?_⟩;simp only[fX,hw,cF3,he];rw[bK3 (by rw[hf]),S,eB1,u d (by omega) _];simp only;have:=z d (by omega);rw[jD,p]at this;rw[hf,cM3,show j+(os.length+1)=j+1+os.length by omega];exact this
 |@xcall o os σ τ fs xs v s' hw he hc hk hf hs hn h ih=>
  intro j ft h1 h2 y q r f;have p:ft j={al:=List.range' σ.s.n (s'.n-σ.s.n),all:=1,x:=true}:=by have:=h1 0 (by simp);simpa using this.symm
  obtain⟨D,z⟩:=ih (j+1) ft (fun i hi=>by have:=h1 (i+1) (by simp;omega);simpa[cW3,dS3 1 i]using this) (fun i o A=>by have:=h2 (i+1) o (by simpa using A);simpa[cW3,dS3 1 i]using this) y
   (fun i k hi w=>by
    by_cases e:i=j;subst e;have:=h2 0 o rfl;rw[dN3,w]at this;cases this;rw[p,hk];exact .inr ⟨rfl,rfl,rfl,rfl⟩;exact q i k (by omega) w)
   (fun i hi=>by
    by_cases e:i=j;subst e;exact⟨_,by have:=h2 0 o rfl;simpa using this,sI _ _ _⟩;exact r i (by omega)) f
  obtain⟨D2,u⟩:=hs;have K:=f (Vv hk)
  have P:Sim.nbF (jD ft j)=true:=eA1 fun i hi=>by
   obtain⟨k,H,O⟩:=r i hi;have U:=K i k H;rcases q i k hi H with m|m;exact .inl (by rw[m])
   match k,O,U,m with
   |0,_,_,m=>exact .inl (by rw[m])
   |1,_,_,m=>exact .inl m.2.2
   |2,_,_,m=>exact .inl m.2.2
   |3,_,_,m=>exact .inr (by rw[m])
   |4,_,U,_=>exact absurd rfl U
   |5,_,_,m=>exact .inl m
   |6,_,_,m=>exact .inr m.2.2.2
  refine⟨max D D2,fun d hd=>?_⟩;simp only[fX,hw,cF3,he];rw[bM3 (by rw[hf];omega),bK3 hf,P,u d (by omega)];simp only;have:=z d (by omega);rw[jD,p]at this;rw[cM3,show j+(os.length+1)=j+1+os.length by omega];exact this
def Pg {ks before:aA Nat} (h:Lh ks before=true):∀(i l k k':Nat),i<l->ks[i]? =some k->ks[l]? =some k'->(before.getD l 0).testBit i=true\/nJ k k'=true:=by
 intro i l k k' a hi hl;simp only[Lh,bJ3,List.mem_range,bZ3]at h;have:=h l (bG3.1 hl).1 i a;simpa[List.getD,hi,hl]using this
def eC1 (ks:aA Nat):Bool:=ks.all fun k=> !(Nat.beq k 4)
def Ag {ks:aA Nat} (h:eC1 ks=true):∀(i k:Nat),ks[i]? =some k->k≠4:=fun i k hk=>by
 have:=bJ3.1 h k (bO3 hk)
 exact fun e=>by subst e;simp at this
def Tr.draw (e:dr≠0) {before:aA Nat} {os:aA Sim.Op1} {σ τ:St} {fs:aA Foot} (h:Tr T N dr lim os σ fs τ) (p:Lh (os.map fun o=>mL N dr o.k) before=true) (g:dr=5->eC1 (os.map fun o=>mL N dr o.k)=true):
  ∃D,∀d,D<=d->∃f,fX T (exec T d) lim before os 0 [] σ=some (τ,f)/\Sim.drawOK before f f.length=true:=by
 let ft:Nat->Foot:=fun i=>fs.getD i {}
 have b:∀i,i<fs.length->fs[i]? =some (ft i):=fun i hi=>by simp[ft,hi]
 obtain⟨hl,a⟩:=h.feet e;have sp:=Pg p;have c:∀(i:Nat) (o:Sim.Op1),os[i]? =some o->(os.map fun o=>mL N dr o.k)[i]? =some (mL N dr o.k):=fun i o n=>by simp[n]
 obtain⟨D,s⟩:=Tr.foot e (before:=before) (ks:=os.map fun o=>mL N dr o.k) h 0 ft (fun i hi=>by rw[dC3];exact b i hi) (fun i o n=>by rw[dC3];exact c i o n)
  (fun i l k k' m h1 h2 _=>sp i l k k' m h1 h2) (fun i k hi=>by omega) (fun i hi=>by omega) (fun r=>Ag (g r))
 refine⟨D,fun d hd=>⟨_,s d hd,?_⟩⟩;rw[dC3,Sim.revF_length];refine Af (fun j t i hi=>?_);have q:os[j]? =some os[j]:=by simp
 have oi:os[i]? =some (os[i]'(by omega)):=by simp
 rcases sp i j _ _ hi (c i _ oi) (c j _ q)with h1|h1;exact .inl h1;right;exact Jf (sI _ _ _) (sI _ _ _) h1 (a i _ _ oi (b i (by omega))) (a j _ _ q (b j (by omega)))
def Tg (o:Sim.Op1) (a:Nat):Bool:=match o.k,o.xs with
 |.loadS,[.t b]=>Nat.beq b a
 |.loadA _,[.t b]=>Nat.beq b a
 |.slc ..,.t b::_=>Nat.beq b a
 |_,_=>false
def tkM (o:Sim.Op1):Bool:=match o.k with
 |.buildSl .. |.append .. =>true
 |_=>false
def Ze (o:Sim.Op1) (a:Nat):Bool:=match o.k,o.xs with
 |.store _,[.t b,_]=>Nat.beq b a
 |.mapup ..,[.t b,_,_]=>Nat.beq b a
 |_,_=>false
def Vx (o:Sim.Op1) (a:Nat):Bool:=match o.k,o.dst with
 |.buildSl ..,some d=>Nat.beq d a
 |.append ..,some d=>Nat.beq d a
 |_,_=>false
def sZ (a:Nat) (o:Sim.Op1):Bool:=match o.dst with
 |some d=> !Nat.beq d a
 |none=>true
def eD1 (o:Sim.Op1) (d:Nat):aB Nat:=match o.k,o.xs,o.dst,o.guard with
 |.append ..,.t b::_,some d',none=>if Nat.beq b d=true then some d' else none
 |_,_,_,_=>none
def vP:aA Sim.Op1->Nat->Nat->Bool
 |[],d,a=>Nat.beq d a
 |o::os,d,a=>(sZ d o&&vP os d a)||(match eD1 o d with|some d'=>vP os d' a|none=>false)
def tkL (os:aA Sim.Op1) (o:Sim.Op1) (i a:Nat):Bool:=match o.dst with
 |some d=>Vx o d&&vP (os.drop (i+1)) d a
 |none=>false
def tkS (o:Sim.Op1) (a:Nat):Bool:=match o.k,o.dst with
 |.slc ..,some d=>Nat.beq d a
 |_,_=>false
def Vy (os:aA Sim.Op1) (p:Nat×Nat×Nat×Nat):Bool:=match os[p.1]?,os[p.2.1]? with
 |some o,some q=>kK o.k&&(Tg q p.2.2.2&&(os.drop p.2.1).all (sZ p.2.2.2))
 |_,_=>false
def Vz (os:aA Sim.Op1) (p:Nat×Nat×Nat×Nat):Bool:=match os[p.1]?,os[p.2.1]? with
 |some o,some q=>((os.drop p.2.1).all (sZ p.2.2.2)&&((Tg o p.2.2.1&&(os.drop p.1).all (sZ p.2.2.1)&&Ze q p.2.2.2)||(Vx o p.2.2.1&&(os.drop (p.1+1)).all (sZ p.2.2.1)&&Tg q p.2.2.2)||(Nat.beq p.2.2.1 p.2.2.2&&tkM o&&Tg q p.2.2.2)||(tkL os o p.1 p.2.2.1&&Tg q p.2.2.2)))||(Tg o p.2.2.1&&(os.drop p.1).all (sZ p.2.2.1)&&(Vx q p.2.2.2&&(os.drop (p.2.1+1)).all (sZ p.2.2.2)))||(tkS o p.2.2.1&&(os.drop (p.1+1)).all (sZ p.2.2.1)&&(Ze q p.2.2.2&&(os.drop p.2.1).all (sZ p.2.2.2)))
 |_,_=>false
def Zf (os:aA Sim.Op1) (p:Nat×Nat×Nat×Nat):Bool:=bif Nat.beq p.2.2.1 999999 then Vy os p else Vz os p
def Wa (ks before:aA Nat) (ex:aA (Nat×Nat×Nat×Nat)):Bool:=
 (List.range ks.length).all fun j=>(List.range j).all fun i=>(before.getD j 0).testBit i||nJ (ks.getD i 4) (ks.getD j 4)||ex.any fun p=>Nat.beq p.1 i&&Nat.beq p.2.1 j
def oE {t:aA AV} {o:Sim.Op1} {a:Nat} {v:AV} (h:sZ a o=true):(put t o.dst v)[a]? =t[a]? :=by
 unfold sZ at h;unfold put;split;rename_i d hd;rw[hd]at h;simp only[bW3,bO,cV3]at h;rw[bT3 h];rfl
def Tr.keep {os:aA Sim.Op1} {σ τ:St} {fs:aA Foot} (h:Tr T N dr lim os σ fs τ) {a:Nat} (b:os.all (sZ a)=true):τ.t[a]? =σ.t[a]? :=by
 induction h with
 |nil=>rfl
 |skip hw h ih=>simp only[dF3,bF3]at b;rw[ih b.2,oE b.1]
 |op hw he hc hd h ih=>simp only[dF3,bF3]at b;rw[ih b.2,oE b.1]
 |call hw he hc hk hf hs h ih=>simp only[dF3,bF3]at b;rw[ih b.2,oE b.1]
 |ncall hw he hc hf hk hs hn h ih=>simp only[dF3,bF3]at b;rw[ih b.2,oE b.1]
 |xcall hw he hc hk hf hs hn h ih=>simp only[dF3,bF3]at b;rw[ih b.2,oE b.1]
def zW1 {L:Nat->aB AO} {n:Nat} {o:Sim.Op1} {a:Nat} {xs:aA AV} {out:Out} (hk:Ze o a=true) (h:doOp L lim n o.k xs=some out):out.new=none:=by
 unfold Ze at hk;split at hk
 .rename_i h1 h2
  rw[h1]at h;unfold doOp at h
  repeat' split at h
  all_goals first|(cases h;done)|(cases h;rfl)|simp_all
 .rename_i h1 h2
  rw[h1]at h;unfold doOp at h
  repeat' split at h
  all_goals first|(cases h;done)|(cases h;rfl)|simp_all
 .cases hk
def Zg {t:aA AV} {b:Nat} {r:aA IX} {xs:aA AV} (h:Sim.evs t (.t b::r)=some xs):∃y ys,xs=y::ys/\t[b]? =some y/\Sim.evs t r=some ys:=by
 simp only[Sim.evs,Sim.IX.ev]at h;split at h
 grind
 cases h
def uP {s:Hp} {out:Out} {x:AO} (h:out.new=some x):List.range' s.n ((out.apply s).n-s.n)=[s.n]:=by
 have:(out.apply s).n=s.n+1:=by unfold Out.apply;rw[h]
 rw[this,Nat.add_sub_cancel_left];rfl
def eF1 (f:Foot) (τ:St) (a:Nat):Prop:=f={}\/∀y,τ.t[a]? =some y->f.rd=Sim.idOf y/\f.wr=[]/\f.al=[]/\f.all=0
def zX1 (f:Foot) (τ:St) (a:Nat):Prop:=f={}\/∀y,τ.t[a]? =some y->f.wr=Sim.idOf y/\f.rd=[]/\f.al=[]/\f.all=0
def lL1 (f:Foot) (τ:St) (a:Nat):Prop:=f={}\/∀y,τ.t[a]? =some y->f.all=0/\(∀x∈f.wr,x∈Sim.idOf y)/\∀x∈f.al,x∈Sim.idOf y
def Th {L:Nat->aB AO} {n ty esz:Nat} {s:AV} {new:aA (aA AV)} {out:Out} (h:Sim.appendTo L lim n ty esz s new=some out):
  (∀x∈Sim.idOf s,x∈Sim.idOf out.v)/\(out.new=none\/Sim.idOf out.v=[n]):=by
 unfold Sim.appendTo at h
 repeat' split at h
 all_goals first|(cases h;done)|(cases h;exact⟨fun x a=>a,.inl rfl⟩)|(cases h;exact⟨fun x a=>by simp[Sim.idOf]at a,.inr rfl⟩)
def Li {L:Nat->aB AO} {n:Nat} {o:Sim.Op1} {a:Nat} {xs:aA AV} {out:Out} (hk:Vx o a=true) (h:doOp L lim n o.k xs=some out):
  (foot T o.k xs).all=0/\(∀x∈(foot T o.k xs).wr,x∈Sim.idOf out.v)/\(out.new=none\/Sim.idOf out.v=[n])/\o.dst=some a:=by
 unfold Vx at hk;split at hk;rename_i d h1 h2;rw[h1]at h ⊢;rw[h2,bV3 hk];refine⟨by rcases xs with _|⟨p,_|⟨q,_|⟨r,t⟩⟩⟩<;>rfl,fun x e=>by rcases xs with _|⟨p,_|⟨q,_|⟨r,t⟩⟩⟩<;>simp[foot]at e,.inr ?_,rfl⟩;unfold doOp at h;simp only[bH3]at h;obtain⟨cs,_,rfl⟩:=h;rfl;rename_i d h1 h2;rw[h1]at h ⊢;rcases xs with _|⟨p,_|⟨q,_|⟨r,t⟩⟩⟩
 simp[doOp]at h;simp[doOp]at h;simp only[doOp]at h;split at h;split at h;rename_i o' c;have:=Th c;have b:out=o':=by grind
 subst b;exact⟨rfl,this.1,this.2,by rw[h2,bV3 hk]⟩;cases h;cases h;simp[doOp]at h;cases hk
def vX1 {o:Sim.Op1} {a:Nat} {σ:St} {xs:aA AV} (hk:Tg o a=true) (he:Sim.evs σ.t o.xs=some xs):∃y,σ.t[a]? =some y/\foot T o.k xs={rd:=Sim.idOf y}/\mL N dr o.k<=1:=by
 unfold Tg at hk;split at hk;rename_i b h1 h2;rw[h2]at he;obtain⟨y,ys,rfl,d,c⟩:=Zg he;simp only[Sim.evs,bL3]at c;subst c;rw[h1,<-bV3 hk];exact⟨y,d,rfl,by simp[mL]⟩;rename_i b h1 h2;rw[h2]at he;obtain⟨y,ys,rfl,d,c⟩:=Zg he;simp only[Sim.evs,bL3]at c;subst c;rw[h1,<-bV3 hk];exact⟨y,d,rfl,by simp[mL]⟩;rename_i b _ h1 h2;rw[h2]at he;obtain⟨y,ys,rfl,d,c⟩:=Zg he;rw[h1,<-bV3 hk];exact⟨y,d,rfl,by simp[mL]⟩;cases hk
def vY1 {o:Sim.Op1} {a:Nat} {σ:St} {xs:aA AV} (hk:Ze o a=true) (he:Sim.evs σ.t o.xs=some xs):∃y,σ.t[a]? =some y/\foot T o.k xs={wr:=Sim.idOf y}:=by
 unfold Ze at hk;split at hk;rename_i b c h1 h2;rw[h2]at he;obtain⟨y,ys,rfl,e,f⟩:=Zg he;rw[h1,<-bV3 hk];exact⟨y,e,rfl⟩;rename_i b c d h1 h2;rw[h2]at he;obtain⟨y,ys,rfl,e,f⟩:=Zg he;rw[h1,<-bV3 hk];exact⟨y,e,rfl⟩;cases hk
def nP {o:Sim.Op1} {a:Nat} (h:Tg o a=true\/Ze o a=true\/Vx o a=true):kK o.k=false/\∀xs,(foot T o.k xs).all=0:=by
 have key:∀k:hZ,(k=.loadS\/(∃n,k=.loadA n)\/(∃n,k=.store n)\/(∃a b,k=.mapup a b)\/(∃a b c d e,k=.buildSl a b c d e)\/(∃a b c d e,k=.append a b c d e)\/∃a b c d,k=.slc a b c d)->kK k=false/\∀xs,(foot T k xs).all=0:=by
  intro k hk
  rcases hk with rfl|⟨_,rfl⟩|⟨_,rfl⟩|⟨_,_,rfl⟩|⟨_,_,_,_,_,rfl⟩|⟨_,_,_,_,_,rfl⟩|⟨_,_,_,_,rfl⟩<;>
   exact⟨rfl,fun xs=>by rcases xs with _|⟨p,_|⟨q,_|⟨r,t⟩⟩⟩<;>rfl⟩
 refine key _ ?_;rcases h with h|h|h;unfold Tg at h;split at h
 grind
 grind
 grind
 cases h;unfold Ze at h;split at h
 grind
 grind
 cases h;unfold Vx at h;split at h
 grind
 grind
 cases h
def Tr.touch {os:aA Sim.Op1} {σ τ:St} {fs:aA Foot} (h:Tr T N dr lim os σ fs τ):∀(i:Nat) (o:Sim.Op1) (f:Foot) (a:Nat),os[i]? =some o->fs[i]? =some f->
  (Tg o a=true->(os.drop i).all (sZ a)=true->eF1 f τ a)/\(Ze o a=true->(os.drop i).all (sZ a)=true->zX1 f τ a)/\(Vx o a=true->(os.drop (i+1)).all (sZ a)=true->lL1 f τ a):=by
 induction h with
 |nil=>intro i o f a h;simp at h
 |skip hw h ih=>
  intro i o f a h1 h2;cases i with
  |zero=>simp at h1 h2;subst h1;subst h2;exact⟨fun _ _=>.inl rfl,fun _ _=>.inl rfl,fun _ _=>.inl rfl⟩
  |succ i=>simp at h1 h2;simpa using ih i o f a h1 h2
 |@op o os σ τ fs xs out hw he hc hd h ih=>
  intro i o' f a h1 h2;cases i with
  |zero=>
   simp at h1 h2;subst h1;subst h2;refine⟨fun hk hb=>?_,fun hk hb=>?_,fun hk hb=>?_⟩;simp only[dA3,dF3,bF3]at hb;obtain⟨y,k,d,e⟩:=vX1 (T:=T) (N:=N) (dr:=dr) hk he;refine .inr (fun z b=>?_);rw[h.keep hb.2,oE hb.1,k]at b;cases b;exact⟨by rw[d],by rw[d],uA (sV1 hd e),by rw[d]⟩;simp only[dA3,dF3,bF3]at hb;obtain⟨y,k,d⟩:=vY1 (T:=T) hk he;refine .inr (fun z b=>?_);rw[h.keep hb.2,oE hb.1,k]at b;cases b;exact⟨by rw[d],by rw[d],uA (zW1 hk hd),by rw[d]⟩;obtain⟨k,d,e,l⟩:=Li (T:=T) hk hd;have hb:os.all (sZ a)=true:=by simpa using hb
   have j:∀z,(put σ.t o.dst out.v)[a]? =some z->z=out.v:=fun z b=>by
    rw[l]at b;simp only[put,cA3]at b;split at b
    grind
    grind
   refine .inr (fun z b=>?_);rw[h.keep hb]at b;have:=j z b;subst this;refine⟨k,d,fun x c=>?_⟩;rcases e with e|e;have:=uA (s:=σ.s) e;simp only at c;rw[this]at c;simp at c;cases hn:out.new with
   |none=>
    have:=uA (s:=σ.s) hn;simp only at c;rw[this]at c;simp at c
   |some w=>
    simp only at c;rw[uP hn]at c;rw[e];exact c
  |succ i=>simp at h1 h2;simpa using ih i o' f a h1 h2
 |@call o os σ τ fs xs v hw he hc hk hf hs h ih=>
  intro i o' f a h1 h2;cases i with
  |zero=>
   simp at h1 h2;subst h1;subst h2;have no:¬(Tg o a=true\/Ze o a=true\/Vx o a=true):=fun g=>by have:=(nP (T:=T) g).1;rw[hc]at this;cases this
   exact⟨fun hk _=>absurd (.inl hk) no,fun hk _=>absurd (.inr (.inl hk)) no,fun hk _=>absurd (.inr (.inr hk)) no⟩
  |succ i=>simp at h1 h2;simpa using ih i o' f a h1 h2
 |@ncall o os σ τ fs xs v s' hw he hc hf hk hs hn h ih=>
  intro i o' f a h1 h2;cases i with
  |zero=>
   simp at h1 h2;subst h1;subst h2;have no:¬(Tg o a=true\/Ze o a=true\/Vx o a=true):=fun g=>by have:=(nP (T:=T) g).1;rw[hc]at this;cases this
   exact⟨fun hk _=>absurd (.inl hk) no,fun hk _=>absurd (.inr (.inl hk)) no,fun hk _=>absurd (.inr (.inr hk)) no⟩
  |succ i=>simp at h1 h2;simpa using ih i o' f a h1 h2
 |@xcall o os σ τ fs xs v s' hw he hc hk hf hs hn h ih=>
  intro i o' f a h1 h2;cases i with
  |zero=>
   simp at h1 h2;subst h1;subst h2;have no:¬(Tg o a=true\/Ze o a=true\/Vx o a=true):=fun g=>by have:=(nP (T:=T) g).1;rw[hc]at this;cases this
   exact⟨fun hk _=>absurd (.inl hk) no,fun hk _=>absurd (.inr (.inl hk)) no,fun hk _=>absurd (.inr (.inr hk)) no⟩
  |succ i=>simp at h1 h2;simpa using ih i o' f a h1 h2
def lM1 {L:Nat->aB AO} {n e:Nat} {lo hi mx:Bool} {xs:aA AV} {out:Out} (h:doOp L lim n (.slc e lo hi mx) xs=some out):∃y,foot T (.slc e lo hi mx) xs={rd:=Sim.idOf y}/\Sim.idOf out.v=Sim.idOf y/\out.new=none:=by
 cases xs with
 |nil=>simp[doOp,Sim.sliceOp]at h
 |cons y ys=>
  refine⟨y,rfl,?_⟩;have h2:(Sim.sliceOp L e lo hi mx (y::ys)).map (fun v=>({v:=v}:Out))=some out:=h;clear h;rw[bH3]at h2;obtain⟨v,a,rfl⟩:=h2;refine⟨?_,rfl⟩;cases y<;>simp only[Sim.sliceOp]at a<;>(repeat' split at a)<;>first|(cases a;done)|(cases a;rfl)|(simp at a;done)|(simp at a;subst a;simp_all[Sim.idOf])
def Tr.touchS {os:aA Sim.Op1} {σ τ:St} {fs:aA Foot} (h:Tr T N dr lim os σ fs τ):∀(i:Nat) (o:Sim.Op1) (f:Foot) (a:Nat),os[i]? =some o->fs[i]? =some f->tkS o a=true->(os.drop (i+1)).all (sZ a)=true->eF1 f τ a:=by
 induction h with
 |nil=>intro i o f a h;simp at h
 |skip hw h ih=>
  intro i o f a h1 h2 hk hb;cases i with
  |zero=>simp at h1 h2;subst h1;subst h2;exact .inl rfl
  |succ i=>simp at h1 h2;exact ih i o f a h1 h2 hk (by simpa using hb)
 |@op o os σ τ fs xs out hw he hc hd h ih=>
  intro i o' f a h1 h2 hk hb;cases i with
  |zero=>
   simp at h1 h2;subst h1;subst h2;unfold tkS at hk;split at hk;rename_i d q1 q2;rw[q1]at hd;obtain⟨y,e,g,j⟩:=lM1 (T:=T) hd;have hb:os.all (sZ a)=true:=by simpa using hb
   have c:∀z,(put σ.t o.dst out.v)[a]? =some z->z=out.v:=fun z b=>by
    rw[q2,bV3 hk]at b;simp only[put,cA3]at b;split at b
    grind
    grind
   refine .inr (fun z b=>?_);rw[h.keep hb]at b;have:=c z b;subst this;rw[q1];exact⟨by rw[e,g],by rw[e],uA j,by rw[e]⟩;cases hk
  |succ i=>simp at h1 h2;exact ih i o' f a h1 h2 hk (by simpa using hb)
 |@call o os σ τ fs xs v hw he hc hk' hf hs h ih=>
  intro i o' f a h1 h2 hk hb;cases i with
  |zero=>
   simp at h1 h2;subst h1;subst h2;unfold tkS at hk;split at hk;rename_i d q1 q2;rw[q1]at hc;cases hc;cases hk
  |succ i=>simp at h1 h2;exact ih i o' f a h1 h2 hk (by simpa using hb)
 |@ncall o os σ τ fs xs v s' hw he hc hf hk' hs hn h ih=>
  intro i o' f a h1 h2 hk hb;cases i with
  |zero=>
   simp at h1 h2;subst h1;subst h2;unfold tkS at hk;split at hk;rename_i d q1 q2;rw[q1]at hc;cases hc;cases hk
  |succ i=>simp at h1 h2;exact ih i o' f a h1 h2 hk (by simpa using hb)
 |@xcall o os σ τ fs xs v s' hw he hc hk' hf hs hn h ih=>
  intro i o' f a h1 h2 hk hb;cases i with
  |zero=>
   simp at h1 h2;subst h1;subst h2;unfold tkS at hk;split at hk;rename_i d q1 q2;rw[q1]at hc;cases hc;cases hk
  |succ i=>simp at h1 h2;exact ih i o' f a h1 h2 hk (by simpa using hb)
def pM {o:Sim.Op1} {d a:Nat} (h:eD1 o d=some a):o.guard=none/\o.dst=some a/\Vx o a=true/\∃ty es b zero g r,o.k=.append ty es b zero g/\o.xs=.t d::r:=by
 unfold eD1 at h;split at h;rename_i h1 h2 c e;split at h;rename_i hb;cases h;refine⟨e,c,?_,_,_,_,_,_,_,h1,by rw[h2,bV3 hb]⟩;unfold Vx;rw[h1,c];exact Nat.beq_refl _;cases h;cases h
def Tr.flow {os:aA Sim.Op1} {σ τ:St} {fs:aA Foot} (h:Tr T N dr lim os σ fs τ):∀(d a:Nat),vP os d a=true->∀z,τ.t[a]? =some z->∃y,σ.t[d]? =some y/\∀x∈Sim.idOf y,x∈Sim.idOf z:=by
 induction h with
 |nil=>
  intro d a hf z c;simp only[vP]at hf;rw[bV3 hf];exact⟨z,c,fun x f=>f⟩
 |@skip o os σ τ fs hw h ih=>
  intro d a hf z c;simp only[vP,bZ3,bF3]at hf;rcases hf with hf|hf;obtain⟨y,h1,h2⟩:=ih d a hf.2 z c;exact⟨y,by rw[<-h1];exact(oE hf.1).symm,h2⟩;split at hf;rename_i e hs;rw[(pM hs).1]at hw;simp[Sim.wanted]at hw;cases hf
 |@op o os σ τ fs xs out hw he hc hd h ih=>
  intro d a hf z c;simp only[vP,bZ3,bF3]at hf;rcases hf with hf|hf;obtain⟨y,h1,h2⟩:=ih d a hf.2 z c;exact⟨y,by rw[<-h1];exact(oE hf.1).symm,h2⟩;split at hf;rename_i e hs;obtain⟨q1,q2,q3,ty,es,b,zero,g,r,q4,q5⟩:=pM hs;obtain⟨k,h1,h2⟩:=ih e a hf z c;obtain⟨l,j,m,n⟩:=Li (T:=T) q3 hd
  have hv:k=out.v:=by
   have c:=h1;simp only at c;rw[q2]at c;simp only[put,cA3]at c;split at c
   grind
   grind
  subst hv;rw[q5]at he;obtain⟨y,ys,rfl,i,e2⟩:=Zg he;refine⟨y,i,fun x f=>h2 x (j x ?_)⟩;rw[q4]at hd ⊢;rcases ys with _|⟨w,_|⟨w2,ws⟩⟩
  simp[doOp]at hd;exact f;simp[doOp]at hd;cases hf
 |@call o os σ τ fs xs v hw he hc hk hff hs h ih=>
  intro d a hf z c;simp only[vP,bZ3,bF3]at hf;rcases hf with hf|hf;obtain⟨y,h1,h2⟩:=ih d a hf.2 z c;exact⟨y,by rw[<-h1];exact(oE hf.1).symm,h2⟩;split at hf;rename_i e hs;have:=(nP (T:=T) (.inr (.inr (pM hs).2.2.1))).1;rw[hc]at this;cases this;cases hf
 |@ncall o os σ τ fs xs v s' hw he hc hff hk hs hn h ih=>
  intro d a hf z c;simp only[vP,bZ3,bF3]at hf;rcases hf with hf|hf;obtain⟨y,h1,h2⟩:=ih d a hf.2 z c;exact⟨y,by rw[<-h1];exact(oE hf.1).symm,h2⟩;split at hf;rename_i e hs;have:=(nP (T:=T) (.inr (.inr (pM hs).2.2.1))).1;rw[hc]at this;cases this;cases hf
 |@xcall o os σ τ fs xs v s' hw he hc hk hff hs hn h ih=>
  intro d a hf z c;simp only[vP,bZ3,bF3]at hf;rcases hf with hf|hf;obtain⟨y,h1,h2⟩:=ih d a hf.2 z c;exact⟨y,by rw[<-h1];exact(oE hf.1).symm,h2⟩;split at hf;rename_i e hs;have:=(nP (T:=T) (.inr (.inr (pM hs).2.2.1))).1;rw[hc]at this;cases this;cases hf
def Tr.touchL {os:aA Sim.Op1} {σ τ:St} {fs:aA Foot} (h:Tr T N dr lim os σ fs τ):∀(i:Nat) (o:Sim.Op1) (f:Foot) (a:Nat),os[i]? =some o->fs[i]? =some f->tkL os o i a=true->lL1 f τ a:=by
 induction h with
 |nil=>intro i o f a h;simp at h
 |skip hw h ih=>
  intro i o f a h1 h2 hk;cases i with
  |zero=>simp at h1 h2;subst h1;subst h2;exact .inl rfl
  |succ i=>simp at h1 h2;exact ih i o f a h1 h2 (by simpa[tkL]using hk)
 |@op o os σ τ fs xs out hw he hc hd h ih=>
  intro i o' f a h1 h2 hk;cases i with
  |zero=>
   simp at h1 h2;subst h1;subst h2;unfold tkL at hk;split at hk;rename_i d g;simp only[bF3,List.drop_succ_cons,dA3]at hk;obtain⟨l,m,j,p⟩:=Li (T:=T) hk.1 hd;refine .inr (fun z e=>?_);obtain⟨y,n,k⟩:=h.flow d a hk.2 z e
   have hv:y=out.v:=by
    have e:=n;simp only at e;rw[g]at e;simp only[put,cA3]at e;split at e
    grind
    grind
   subst hv;refine⟨l,fun x c=>k x (m x c),fun x c=>k x ?_⟩;rcases j with j|j;have:=uA (s:=σ.s) j;simp only at c;rw[this]at c;simp at c;cases hn:out.new with
   |none=>
    have:=uA (s:=σ.s) hn;simp only at c;rw[this]at c;simp at c
   |some w=>
    simp only at c;rw[uP hn]at c;rw[j];exact c
   cases hk
  |succ i=>simp at h1 h2;exact ih i o' f a h1 h2 (by simpa[tkL]using hk)
 |@call o os σ τ fs xs v hw he hc hk hf hs h ih=>
  intro i o' f a h1 h2 b;cases i with
  |zero=>
   simp at h1 h2;subst h1;subst h2;unfold tkL at b;split at b;simp only[bF3]at b;have:=(nP (T:=T) (.inr (.inr b.1))).1;rw[hc]at this;cases this;cases b
  |succ i=>simp at h1 h2;exact ih i o' f a h1 h2 (by simpa[tkL]using b)
 |@ncall o os σ τ fs xs v s' hw he hc hf hk hs hn h ih=>
  intro i o' f a h1 h2 b;cases i with
  |zero=>
   simp at h1 h2;subst h1;subst h2;unfold tkL at b;split at b;simp only[bF3]at b;have:=(nP (T:=T) (.inr (.inr b.1))).1;rw[hc]at this;cases this;cases b
  |succ i=>simp at h1 h2;exact ih i o' f a h1 h2 (by simpa[tkL]using b)
 |@xcall o os σ τ fs xs v s' hw he hc hk hf hs hn h ih=>
  intro i o' f a h1 h2 b;cases i with
  |zero=>
   simp at h1 h2;subst h1;subst h2;unfold tkL at b;split at b;simp only[bF3]at b;have:=(nP (T:=T) (.inr (.inr b.1))).1;rw[hc]at this;cases this;cases b
  |succ i=>simp at h1 h2;exact ih i o' f a h1 h2 (by simpa[tkL]using b)
def Ph (τ:St) (p:Nat×Nat×Nat×Nat):Prop:=∃y z,τ.t[p.2.2.1]? =some y/\τ.t[p.2.2.2]? =some z/\∀x∈Sim.idOf y,x∉Sim.idOf z
def kV2 (σ τ:St) (p:Nat×Nat×Nat×Nat):Prop:=∃z,τ.t[p.2.2.2]? =some z/\∀x∈Sim.idOf z,x<σ.s.n
def Tr.alge {os:aA Sim.Op1} {σ τ:St} {fs:aA Foot} (h:Tr T N dr lim os σ fs τ):∀f∈fs,∀x∈f.al,σ.s.n<=x:=by
 induction h with
 |nil=>intro f hf;simp at hf
 |skip hw h ih=>
  intro f hf x a;rcases bR3.1 hf with rfl|hf;simp at a;exact ih f hf x a
 |@op o os σ τ fs xs out hw he hc hd h ih=>
  intro f hf x a;rcases bR3.1 hf with rfl|hf
  grind
  have:=ih f hf x a
  have h2:σ.s.n<=(out.apply σ.s).n:=by
   unfold Out.apply;cases out.new<;>simp
  exact cH3 h2 this
 |call hw he hc hk hf hs h ih=>
  intro f hf x a;rcases bR3.1 hf with rfl|hf;simp at a;exact ih f hf x a
 |@ncall o os σ τ fs xs v s' hw he hc hf hk hs hn h ih=>
  intro f hf x a;rcases bR3.1 hf with rfl|hf
  grind
  grind
 |@xcall o os σ τ fs xs v s' hw he hc hk hf hs hn h ih=>
  intro f hf x a;rcases bR3.1 hf with rfl|hf
  grind
  grind
def oP {f g:Foot} {τ:St} {p:Nat×Nat×Nat×Nat} (h:(eF1 f τ p.2.2.1/\zX1 g τ p.2.2.2)\/(lL1 f τ p.2.2.1/\eF1 g τ p.2.2.2)) (m:Ph τ p):Sim.compat0 f g=true:=by
 obtain⟨y,z,hy,l,hd⟩:=m;rcases h with⟨h1,h2⟩|⟨h1,h2⟩
 rcases h2 with rfl|h2;rcases h1 with rfl|h1;rfl;obtain⟨a,b,c,d⟩:=h1 y hy;simp[Sim.compat0,b,c,d];obtain⟨a',b',k,j⟩:=h2 z l;rcases h1 with rfl|h1;simp[Sim.compat0,j];obtain⟨a,b,c,d⟩:=h1 y hy;have:∀x∈g.wr,x∉f.rd:=fun x i e=>by rw[a]at e;rw[a']at i;exact hd x e i
 simpa[Sim.compat0,b,c,d,b',k,j]using this;rcases h2 with rfl|h2;rcases h1 with rfl|h1;rfl;obtain⟨a,b,c⟩:=h1 y hy;simp[Sim.compat0,a];obtain⟨a',b',k,j⟩:=h2 z l;rcases h1 with rfl|h1;simp[Sim.compat0,j];obtain⟨a,b,c⟩:=h1 y hy;have n:∀x∈f.wr,x∉g.rd:=fun x i e=>by rw[a']at e;exact hd x (b x i) e
 have o:∀x∈f.al,x∉g.rd:=fun x i e=>by rw[a']at e;exact hd x (c x i) e
 simpa[Sim.compat0,a,b',k,j]using And.intro n o
def Zh {f g:Foot} {τ:St} {p:Nat×Nat×Nat×Nat} (h1:eF1 f τ p.2.2.1) (h2:lL1 g τ p.2.2.2) (j:Ph τ p):Sim.compat0 f g=true:=by
 obtain⟨y,z,hy,h,hd⟩:=j;rcases h1 with rfl|h1;rcases h2 with rfl|h2;rfl;obtain⟨a',b',i⟩:=h2 z h;simp[Sim.compat0,a'];obtain⟨a,b,c,d⟩:=h1 y hy;rcases h2 with rfl|h2;simp[Sim.compat0,b,c,d];obtain⟨a',b',i⟩:=h2 z h;have:∀x∈g.wr,x∉f.rd:=fun x k e=>by rw[a]at e;exact hd x e (b' x k)
 simpa[Sim.compat0,b,c,d,a']using this
def Ti {ks before:aA Nat} {ex:aA (Nat×Nat×Nat×Nat)} (h:Wa ks before ex=true):∀(i l k k':Nat),i<l->ks[i]? =some k->ks[l]? =some k'->((before.getD l 0).testBit i=true\/nJ k k'=true)\/∃p∈ex,p.1=i/\p.2.1=l:=by
 intro i l k k' a hi hl;simp only[Wa,bJ3,List.mem_range,bZ3,List.any_eq_true,bF3]at h;rcases h l (bG3.1 hl).1 i a with h1|⟨p,h1,h2,h3⟩
 grind
 exact .inr ⟨p,h1,bV3 h2,bV3 h3⟩
def Tr.drawX (E:dr≠0) {before:aA Nat} {ex:aA (Nat×Nat×Nat×Nat)} {os:aA Sim.Op1} {σ τ:St} {fs:aA Foot} (h:Tr T N dr lim os σ fs τ) (V:Wa (os.map fun o=>mL N dr o.k) before ex=true)
  (O:ex.all (Zf os)=true) (g:∀p∈ex,if p.2.2.1=999999 then dr=5/\kV2 σ τ p else Ph τ p) (B:dr=5->eC1 (os.map fun o=>mL N dr o.k)=true):
  ∃D,∀d,D<=d->∃J,fX T (exec T d) lim before os 0 [] σ=some (τ,J)/\Sim.drawOK before J J.length=true:=by
 let ft:Nat->Foot:=fun i=>fs.getD i {}
 have m:∀i,i<fs.length->fs[i]? =some (ft i):=fun i hi=>by simp[ft,hi]
 obtain⟨hl,r⟩:=h.feet E;have sp:=Ti V;have u:∀(i:Nat) (o:Sim.Op1),os[i]? =some o->(os.map fun o=>mL N dr o.k)[i]? =some (mL N dr o.k):=fun i o U=>by simp[U]
 have w:∀p∈ex,∃o q,os[p.1]? =some o/\os[p.2.1]? =some q/\Zf os p=true:=by
  intro p hp;have:=bJ3.1 O p hp;have h2:=this;unfold Zf at h2;cases hb:Nat.beq p.2.2.1 999999 with
  |true=>
   rw[hb,bS3]at h2;unfold Vy at h2;split at h2
   .rename_i o q s K;exact⟨o,q,s,K,this⟩
   .cases h2
  |false=>
   rw[hb,cB3]at h2;unfold Vz at h2;split at h2
   .rename_i o q s K;exact⟨o,q,s,K,this⟩
   .cases h2
 obtain⟨D,hD⟩:=Tr.foot E (before:=before) (ks:=os.map fun o=>mL N dr o.k) h 0 ft (fun i hi=>by rw[dC3];exact m i hi) (fun i o U=>by rw[dC3];exact u i o U)
  (fun i l k k' P h1 h2 R=>by
   rcases sp i l k k' P h1 h2 with s|⟨p,hp,rfl,rfl⟩
   .exact s
   .exfalso
    obtain⟨o,q,t,e2,f⟩:=w p hp;rw[u _ _ e2]at h2;cases h2
    have hh:Tg q p.2.2.2=true\/Ze q p.2.2.2=true\/Vx q p.2.2.2=true:=by
     unfold Zf at f;cases hb:Nat.beq p.2.2.1 999999 with
     |true=>
      rw[hb,bS3]at f;unfold Vy at f;rw[t,e2]at f;simp only[bF3]at f;exact .inl f.2.1
     |false=>
     rw[hb,cB3]at f;unfold Vz at f;rw[t,e2]at f;simp only[bF3,bZ3]at f;rcases f with(f|f)|f
     .rcases f.2 with((h|h)|h)|h
      .exact .inr (.inl h.2)
      .exact .inl h.2
      .exact .inl h.2
      .exact .inl h.2
     .exact .inr (.inr f.2.1)
     .exact .inr (.inl f.2.1)
    have hc:=(nP (T:=T) hh).1;revert R hc;cases q.k
    case len n=>simp only[mL];cases Nat.beq n 2<;>simp
    all_goals simp[mL,kK]) (fun i k hi=>by omega) (fun i hi=>by omega) (fun L=>Ag (B L))
 refine⟨D,fun d hd=>⟨_,hD d hd,?_⟩⟩;rw[dC3,Sim.revF_length];refine Af (fun j hj i hi=>?_);have Z:os[j]? =some os[j]:=by simp
 have oi:os[i]? =some (os[i]'(by omega)):=by simp
 rcases sp i j _ _ hi (u i _ oi) (u j _ Z)with(h1|h1)|⟨p,hp,rfl,rfl⟩
 .exact .inl h1
 .right
  exact Jf (sI _ _ _) (sI _ _ _) h1 (r i _ _ oi (m i (by omega))) (r j _ _ Z (m j (by omega)))
 .right
  obtain⟨o,q,t,e2,f⟩:=w p hp;have g:=g p hp;unfold Zf at f;cases hb:Nat.beq p.2.2.1 999999 with
  |true=>
   rw[hb,bS3]at f;rw[bK3 (bV3 hb)]at g;obtain⟨L,z,H,S⟩:=g;unfold Vy at f;rw[t,e2]at f;simp only[bF3]at f;obtain⟨e4,e5,e6⟩:=f;have hf:=r p.1 o _ t (m p.1 (by omega));have hg:=(h.touch p.2.1 q _ p.2.2.2 e2 (m p.2.1 (by omega))).1 e5 e6;have W:=Ag (B L) p.1 _ (u p.1 o t)
   obtain⟨f1,Y,f3⟩|hf0:((ft p.1).rd=[]/\(ft p.1).wr=[]/\(ft p.1).all=1)\/ft p.1={}:=by
    rcases dZ1 (N:=N) (dr:=dr) e4 with C|C|C
    .rw [C]at hf
     rcases hf with hf|hf
     .exact .inr hf
     .have hf:ft p.1={all:=1,x:=true}:=hf
      rw[hf];exact .inl ⟨rfl,rfl,rfl⟩
    .exact absurd C W
    .rw [C]at hf
     rcases hf with hf|hf
     .exact .inr hf
     .exact .inl ⟨hf.1,hf.2.1,hf.2.2.1⟩
   rotate_left
   .rw [hf0];rfl
   .refine kI ?_
    rcases hg with hg|hg
    .rw [hg];simp[Sim.compat0,Y,f3]
    .obtain ⟨a,b,c,d⟩:=hg z H
     have:∀x∈(ft p.1).al,x∉(ft p.2.1).rd:=fun x w G=>by
      rw[a]at G;have h8:=S x G;have h9:=h.alge _ (bO3 (m p.1 (by omega))) x w;omega
     simpa[Sim.compat0,f1,Y,f3,b,c,d]using this
  |false=>
  rw[hb,cB3]at f;rw[bM3 (fun e=>by rw[e]at hb;cases hb)]at g;have g:∀q,q=p->Ph τ q:=fun q hq=>by rw[hq];exact g
  have hp:p=p:=rfl;unfold Vz at f;rw[t,e2]at f;simp only[bF3,bZ3]at f;have X:=h.touch p.1 o _ p.2.2.1 t (m p.1 (by omega));have A:=h.touch p.2.1 q _ p.2.2.2 e2 (m p.2.1 (by omega));rcases f with(f|f)|f
  case inr.false.inr=>exact kI<|oP (.inl ⟨h.touchS p.1 o _ p.2.2.1 t (m p.1 (by omega)) f.1.1 f.1.2,A.2.1 f.2.1 f.2.2⟩) (g p hp)
  case inr.false.inl.inr=>exact kI<|Zh (X.1 f.1.1 f.1.2) (A.2.2 f.2.1 f.2.2) (g p hp)
  rcases f.2 with((⟨⟨h1,h2⟩,s⟩|⟨⟨h1,h2⟩,s⟩)|⟨⟨h1,h2⟩,s⟩)|⟨h1,s⟩
  .exact kI<|oP (.inl ⟨X.1 h1 h2,A.2.1 s f.1⟩) (g p hp)
  .exact kI<|oP (.inr ⟨X.2.2 h1 h2,A.1 s f.1⟩) (g p hp)
  .have M:=bV3 h1
   obtain⟨y,z,hy,H,hd⟩:=g p hp;rw[M]at hy;rw[hy]at H;cases H;have F:Sim.idOf y=[]:=List.eq_nil_iff_forall_not_mem.2 (fun x w=>hd x w w)
   have v:(ft p.1).all=0:=by
    have hf:=r p.1 o _ t (m p.1 (by omega));unfold tkM at h2;unfold pL at hf;split at h2
    .rename_i hk
     rw[hk]at hf;rcases hf with hf|hf
     .rw [hf]
     .exact hf.2.2
    .rename_i hk
     rw[hk]at hf;rcases hf with hf|hf
     .rw [hf]
     .exact hf
    .cases h2
   rcases A.1 s f.1 with hg|hg
   .refine kI ?_
    rw[hg];simp[Sim.compat0,v]
   .obtain ⟨a,b,c,d⟩:=hg y hy
    rw[F]at a;refine kI ?_;simp[Sim.compat0,v,a,b,c,d]
  .exact kI<|oP (.inr ⟨h.touchL p.1 o _ p.2.2.1 t (m p.1 (by omega)) h1,A.1 s f.1⟩) (g p hp)
end
end Go.P
namespace Go.P
open Go.Sim (AV AO Hp iJ upd St IC IX Ex hZ CK Wf Out doOp lI exec mapO oS Cb Rp)
def Cp {A:Type} {f:A->aB A}:∀{l:aA A},(∀x∈l,f x=some x)->mapO f l=some l
 |[],_=>rfl
 |a::as,h=>by
  have h1:=h a (List.mem_cons_self ..)
  have h2:=Cp (f:=f) (l:=as) (fun x b=>h x (cY3 _ b))
  simp only[mapO,h1,h2]
section
variable {L:Nat->Option AO} {n0:Nat}
def uB {x:PV} {y:AV} {d:Nat} (h:RC true x y):oS L n0 (d+1) y=some y:=by
 cases h<;>rfl
def Lj {Q:PV->AV->Prop} {xs:aA PV} {ys:aA AV} (h:LR Q xs ys) {y:AV} (hy:y∈ys):∃x,x∈xs/\Q x y:=by
 obtain⟨j,a⟩:=bX3.1 hy;have b:j<xs.length:=by rw[h.1];exact(bG3.1 a).1
 exact⟨xs[j],by simp,h.2 j _ y (by simp) a⟩
def Jg {xs:aA PV} {ys:aA AV} {d:Nat} (h:LR (RC true) xs ys):mapO (oS L n0 (d+1)) ys=some ys:=
 Cp fun y hy=>by
  obtain⟨x,_,a⟩:=Lj h hy
  exact uB a
def lN1 {rows:aA (aA PV)} {els:aA (aA AV)} {d:Nat} (h:RR rows els):mapO (fun row=>mapO (oS L n0 (d+1)) row) els=some els:=
 Cp fun r hr=>by
  obtain⟨j,a⟩:=bX3.1 hr
  have b:j<rows.length:=by rw[h.1];exact(bG3.1 a).1
  exact Jg (h.2 j rows[j] r (by simp) a)
def Wb {rows:aA (aA PV)} {els:aA (aA AV)} {d e id ver:Nat} {bx:Bool} {ty:TypeId} (hn:n0<=id) (a:L id=some (.arr bx ty e ver els)) (hr:RR rows (els.take rows.length)) (b:rows.length<=els.length):
  oS L n0 (d+2) (.sl e id ver 0 rows.length none)=some (.is e (els.take rows.length)):=by
 have hc:n0<=id/\ver=ver/\0+rows.length<=els.length:=⟨hn,rfl,by omega⟩
 show(match L id with
   |some (.arr _ _ e ver' els)=>
    if n0<=id/\ver'=ver/\0+rows.length<=els.length then(mapO (fun row=>mapO (oS L n0 (d+1)) row) ((els.drop 0).take rows.length)).map fun rows=>AV.is e rows else none
   |_=>none)=_
 rw[a];show(if n0<=id/\ver=ver/\0+rows.length<=els.length then(mapO (fun row=>mapO (oS L n0 (d+1)) row) ((els.drop 0).take rows.length)).map fun rows=>AV.is e rows else none)=_
 rw[bK3 hc,dA3,lN1 hr];rfl
def eG1 {Q Q':PV->AV->Prop} {f:AV->aB AV} (hf:∀x y,Q x y->∃b,f y=some b/\Q' x b):∀{xs:aA PV} {ys:aA AV},LR Q xs ys->∃a,mapO f ys=some a/\LR Q' xs a
 |[],ys,h=>by rw[h.inv_nil];exact⟨[],rfl,.nil⟩
 |x::xs,ys,h=>by
  obtain⟨y,a,rfl,h1,h2⟩:=h.inv_cons
  obtain⟨b,c,d⟩:=hf x y h1
  obtain⟨zs,e,g⟩:=eG1 hf h2
  exact⟨b::zs,by simp only[mapO,c,e],.cons d g⟩
def eH1 {z:Nat->aB AO} {d:Nat} {f:AV->aB AV} (hf:∀x y,RZ z d x y->∃g,f y=some g/\RC true x g):∀{rows:aA (aA PV)} {els:aA (aA AV)},Iy z d rows els->∃c,mapO (fun row=>mapO f row) els=some c/\RR rows c
 |[],els,h=>by
  have:els=[]:=dM3 h.1.symm
  subst this
  exact⟨[],rfl,.nil⟩
 |r::rows,[],h=>by have:=h.1;simp at this
 |r::rows,e::els,h=>by
  obtain⟨e',k,l⟩:=eG1 hf (h.2 0 r e rfl rfl)
  obtain⟨es',m,n⟩:=eH1 hf (rows:=rows) (els:=els) ⟨by simpa using h.1,fun i a b j hb=>h.2 (i+1) a b (by simpa using j) (by simpa using hb)⟩
  exact⟨e'::es',by simp only[mapO,k,m],.cons l n⟩
def Wc {z:Nat->aB AO} (g:∀id o,z id=some o->n0<=id/\L id=some o):∀(d f:Nat),d<f->∀(x:PV) (y:AV),RZ z d x y->∃j,oS L n0 f y=some j/\RC true x j
 |0,f+1,_,x,y,h=>⟨y,uB h,h⟩
 |d+1,f+1,hd,x,y,h=>by
  rcases h with h|⟨e,rows,id,ver,ty,els,rfl,rfl,h3,h4,h5⟩
  exact⟨y,uB h,h⟩
  have ih:=Wc g d f (by omega)
  have hr:Iy z d rows (els.take rows.length):=⟨by simp[dJ3 h4],fun i r r' a b=>h5 i r r' a (by
   rw[cD3]at b
   split at b
   exact b
   cases b)⟩
  obtain⟨c,k,l⟩:=eH1 (f:=oS L n0 f) (fun x y h=>ih x y h) hr
  obtain⟨z1,z2⟩:=g id _ h3
  refine⟨.is e c,?_,l.is⟩
  show(match L id with
   |some (.arr _ _ e ver' els)=>
    if n0<=id/\ver'=ver/\0+rows.length<=els.length then(mapO (fun row=>mapO (oS L n0 f) row) ((els.drop 0).take rows.length)).map fun rows=>AV.is e rows else none
   |_=>none)=_
  rw[z2]
  show(if n0<=id/\ver=ver/\0+rows.length<=els.length then(mapO (fun row=>mapO (oS L n0 f) row) ((els.drop 0).take rows.length)).map fun rows=>AV.is e rows else none)=_
  rw[bK3 ⟨z1,rfl,by omega⟩,dA3,k]
  rfl
def sW1 {z:Nat->aB AO} (c:∀id o,z id=some o->n0<=id/\L id=some o) {d f e id ver ty:Nat} {rows:aA (aA PV)} {els:aA (aA AV)} (hd:d<f) (hn:n0<=id) (b:L id=some (.arr false ty e ver els)) (hr:Iy z d rows els):
  ∃a,oS L n0 (f+1) (.sl e id ver 0 rows.length none)=some (.is e a)/\RR rows a:=by
 obtain⟨a,g,i⟩:=eH1 (f:=oS L n0 f) (fun x y h=>Wc c d f hd x y h) hr;refine⟨a,?_,i⟩;have hl:=hr.1
 show(match L id with
  |some (.arr _ _ e ver' els)=>
   if n0<=id/\ver'=ver/\0+rows.length<=els.length then(mapO (fun row=>mapO (oS L n0 f) row) ((els.drop 0).take rows.length)).map fun rows=>AV.is e rows else none
  |_=>none)=_
 rw[b];show(if n0<=id/\ver=ver/\0+rows.length<=els.length then(mapO (fun row=>mapO (oS L n0 f) row) ((els.drop 0).take rows.length)).map fun rows=>AV.is e rows else none)=_
 rw[bK3 ⟨hn,rfl,by omega⟩,dA3,hl,dG3,g];rfl
def eI1 {f:AV->aB AV}:∀{rows:aA (aA PV)} {els:aA (aA AV)},rows.length=els.length->(∀(i:Nat) (r:aA PV) (r':aA AV),rows[i]? =some r->els[i]? =some r'->LR (fun x y=>∃d,f y=some d/\RC true x d) r r')->∃c,mapO (fun row=>mapO f row) els=some c/\RR rows c
 |[],els,hl,h=>by
  have:els=[]:=dM3 hl.symm
  subst this
  exact⟨[],rfl,.nil⟩
 |r::rows,[],hl,h=>by simp at hl
 |r::rows,e::els,hl,h=>by
  obtain⟨e',j,k⟩:=eG1 (fun _ _ h=>h) (h 0 r e rfl rfl)
  obtain⟨es',l,m⟩:=eI1 (f:=f) (rows:=rows) (els:=els) (by simpa using hl) (fun i a b g hb=>h (i+1) a b (by simpa using g) (by simpa using hb))
  exact⟨e'::es',by simp only[mapO,j,l],.cons k m⟩
def Wd {p:TD->Bool}:∀{ks:aA (Nat×TD)} {j:Nat} {t:TD},(ks.all fun q=>p q.2)=true->iH ks j=some t->p t=true
 |[],_,_,_,h=>by cases h
 |(i,t')::r,j,t,ha,h=>by
  simp only[dF3,bF3]at ha
  unfold iH at h
  cases hb:Nat.beq i j with
  |true=>rw[hb]at h;cases h;exact ha.1
  |false=>rw[hb]at h;exact Wd ha.2 h
def eJ1 {f e id ver len:Nat} {ty:TypeId} {els a:aA (aA AV)} (hn:n0<=id) (b:L id=some (.arr false ty e ver els)) (c:len<=els.length) (d:mapO (fun row=>mapO (oS L n0 f) row) (els.take len)=some a):
  oS L n0 (f+1) (.sl e id ver 0 len none)=some (.is e a):=by
 show(match L id with
  |some (.arr _ _ e ver' els)=>
   if n0<=id/\ver'=ver/\0+len<=els.length then(mapO (fun row=>mapO (oS L n0 f) row) ((els.drop 0).take len)).map fun rows=>AV.is e rows else none
  |_=>none)=_
 rw[b];show(if n0<=id/\ver=ver/\0+len<=els.length then(mapO (fun row=>mapO (oS L n0 f) row) ((els.drop 0).take len)).map fun rows=>AV.is e rows else none)=_
 rw[bK3 ⟨hn,rfl,by omega⟩,dA3,d];rfl
def rC {A:Type} {l:aA A} {n i:Nat} {x:A} (h:(l.take n)[i]? =some x):l[i]? =some x:=by grind
def Pi {f:Nat} {ty e j:Nat} {ks:aA (Nat×TD)} {t:TD} (h:Hs f (.nd ty e ks)=true) (hk:iH ks j=some t):∃g,f=g+1/\Hs g t=true:=by
 cases f with
 |zero=>
  cases ks with
  |nil=>cases hk
  |cons a r=>simp[Hs]at h
 |succ g=>exact⟨g,rfl,Wd h hk⟩
def Pj {w:Nat->aB (Nat×Nat×Nat)} {lim nS:Nat} (hn:n0<=lim):∀{f d:Nat} {sl:Nat×Nat×Nat} {t:TD} {x:PV} {y:AV},Hs f t=true->gL L w lim nS d sl t x y->∃k,oS L n0 (f+2) y=some k/\RC true x k
 |_,0,_,_,_,_,_,h=>h.elim
 |f,d+1,sl,.nd ty e ks,x,y,ht,h=>by
  obtain⟨rows,rfl,h2⟩:=h
  rcases h2 with⟨rfl,rfl⟩|⟨id,ver,els,rfl,k2,k3,k4,kf,k5,⟨k6,_⟩,k7⟩
  exact⟨_,rfl,.isn⟩
  obtain⟨c,q1,q2⟩:=eI1 (f:=oS L n0 (f+1)) (rows:=rows) (els:=els.take rows.length) (by simp[dJ3 k6]) (fun i r r' a b=>⟨(k7 i r r' a (rC b)).1,fun j x1 l a1 b1=>by
   have:=(k7 i r r' a (rC b)).2 j x1 l a1 b1
   cases hk:iH ks j with
   |none=>rw[hk]at this;exact⟨l,uB this,this⟩
   |some t=>
    rw[hk]at this
    obtain⟨g,rfl,hg⟩:=Pi ht hk
    exact Pj hn hg this⟩)
  exact⟨_,eJ1 (cH3 hn k3) k5 k6 q1,q2.is⟩
def sX1 {C:Cx} {lim nS d id f e ver ty:Nat} {ks:aA (Nat×TD)} {rows:aA (aA PV)} {els:aA (aA AV)} (hn:n0<=lim) (hl:lim<=id) (m:Hs f (.nd ty e ks)=true) (l:L id=some (.arr false ty e ver els)) (h:rows.length<=els.length)
  (hr:∀(i:Nat) (r:aA PV) (r':aA AV),rows[i]? =some r->els[i]? =some r'->r.length=r'.length/\∀(j:Nat) (a:PV) (b:AV),r[j]? =some a->r'[j]? =some b->TC C L lim nS d id ks [] i j a b):
  ∃c,oS L n0 (f+2) (.sl e id ver 0 rows.length none)=some (.is e c)/\RR rows c:=by
 obtain⟨c,q1,q2⟩:=eI1 (f:=oS L n0 (f+1)) (rows:=rows) (els:=els.take rows.length) (by simp[dJ3 h]) (fun i r r' a b=>⟨(hr i r r' a (rC b)).1,fun j x1 k a1 b1=>by
  have:=(hr i r r' a (rC b)).2 j x1 k a1 b1;unfold TC at this;cases hk:iH ks j with
  |none=>rw[hk]at this;exact⟨k,uB this,this⟩
  |some t=>
   rw[hk]at this;obtain⟨g,rfl,hg⟩:=Pi m hk;rcases this with⟨⟨x,n⟩,_⟩|⟨_,this⟩
   cases n;exact Pj hn hg this⟩)
 exact⟨c,eJ1 (cH3 hn hl) l h q1,q2⟩
def lO1 {d id ver e o:Nat} {bx:Bool} {ty:TypeId} {esz:Nat} {els:aA (aA AV)} {row:aA AV} (a:L id=some (.arr bx ty esz ver els)) (hr:els[e]? =some row):Cb L (d+1) (.ptr id ver e o)=(mapO (Cb L d) (row.drop o)).map AV.ip:=by
 simp[Cb,a,hr]
def vZ1 {d:Nat} {f:FuncId} {a b a' b':aA AV} (h1:mapO (Cb L d) a=some a') (h2:mapO (Cb L d) b=some b'):Cb L (d+1) (.fn (.func f) a b)=some (.fn (.func f) a' b'):=by
 simp[Cb,h1,h2]
def lP1 {d:Nat} {a a':aA AV} (h1:mapO (Cb L d) a=some a'):Cb L (d+1) (.agg a)=some (.agg a'):=by
 simp[Cb,h1]
def sY1 {x:PV} {y:AV} (h:RK x y):Rp L n0 y=some y:=by
 rcases h with h|⟨cs,cs',rfl,rfl,h⟩
 cases h<;>rfl;simp only[Rp,Jg h,cE3]
def eK1 {es:aA (PV×PV)} {es':aA (AV×AV)} (h:EM es es'):mapO (fun(k,x)=>match Rp L n0 k,Rp L n0 x with|some k,some x=>some (k,x)|_,_=>none) es'=some es':=
 Cp fun p hp=>by
  obtain⟨j,c⟩:=bX3.1 hp
  have d:j<es.length:=by rw[h.1];exact(bG3.1 c).1
  obtain⟨h1,h2⟩:=h.2 j es[j] p (by simp) c
  obtain⟨a,b⟩:=p
  simp only[sY1 h1,sY1 h2]
end
section
variable {R:Type} {C:Cx} {n:Nat} {h:aS} {lim:Nat} {s:Hp}
def Jh:∀{d:Nat} {x:PV} {y:AV},eE d x=true->RC false x y->Sim.closed d y=true
 |0,_,_,h,_=>by simp[eE]at h
 |d+1,x,y,hc,hr=>by
  have all:∀{xs:aA PV} {ys:aA AV},xs.all (eE d)=true->LR (RC false) xs ys->ys.all (Sim.closed d)=true:=by
   intro xs ys c hl;rw[bJ3];intro y hy;obtain⟨x,a,b⟩:=Lj hl hy;exact Jh (bJ3.1 c x a) b
  cases hr with
  |fn h1 h2 v1 v2=>
   simp only[eE,bF3]at hc;simp only[Sim.closed,bF3];exact⟨all hc.1 ⟨h1,v1⟩,all hc.2 ⟨h2,v2⟩⟩
  |agg hl hcc=>
   simp only[eE]at hc;simp only[Sim.closed];exact all hc ⟨hl,hcc⟩
  |tup hl hcc=>
   simp only[eE]at hc;simp only[Sim.closed];exact all hc ⟨hl,hcc⟩
  |_=>rfl
def FzR (L:Nat->aB AO) (d:Nat) (a:PV) (y:AV):Prop:=∃b,Cb L d y=some b/\RC false a b/\∀D,Sim.closed D y=true->RC false a y
def We (p:dI C n h lim s):∀(d:Nat) (x:PV) (y:AV) (K:PV->aB R) (r:R),Ky h d x K=some r->RV C x y->∃O,K O=some r/\FzR (Sim.look s.h) (d+1) O y
 |0,x,y,K,r,hk,_=>by unfold Ky at hk;exact aD hk
 |d+1,x,y,K,r,hk,hv=>by
  have i:∀(xs:aA PV) (ys:aA AV) (K:aA PV->aB R) (r:R),vH (Ky h d) xs K=some r->LR (RV C) xs ys->
    ∃xs' l,K xs'=some r/\mapO (Cb (Sim.look s.h) (d+1)) ys=some l/\LR (RC false) xs' l/\((∀y∈ys,∃D,Sim.closed D y=true)->LR (RC false) xs' ys):=by
   intro xs
   induction xs with
   |nil=>
    intro ys K r hk hl;rw[hl.inv_nil];unfold vH at hk;exact⟨[],[],hk,rfl,.nil,fun _=>.nil⟩
   |cons a as ih=>
    intro ys K r hk hl;obtain⟨y,l,rfl,h1,h2⟩:=hl.inv_cons;unfold vH at hk;obtain⟨a',A,b',u,P,S⟩:=We p d a y _ r hk h1;obtain⟨H,J,q1,q2,q3,q4⟩:=ih l _ r A h2;refine⟨a'::H,b'::J,q1,by simp only[mapO,u,q2],.cons P q3,fun hc=>?_⟩;obtain⟨D,c⟩:=hc y (by simp);exact .cons (S D c) (q4 fun z w=>hc z (by simp[w]))
  unfold Ky at hk;cases x with
  |own k=>
   simp only[iN,bD3]at hk;obtain⟨ob,hg,hk⟩:=hk;cases ob with
   |lst ty e g rows=>
    refine⟨_,hk,?_⟩;rcases jI hv with⟨id,ver,F,len,j,rfl⟩|⟨j,rfl⟩
    obtain⟨_,rfl,hlen,els,q,hr,B,_⟩:=lZ p hg j;subst hlen;refine⟨.is F (els.take rows.length),?_,hr.is,fun D c=>by cases D<;>simp[Sim.closed]at c⟩;exact Wb (d:=4) (cQ3 _) q hr B.1;have:=nO p hg j;subst this;exact⟨_,rfl,.isn,fun _ _=>.isn⟩
   |lz ty e dp rows=>
    cases hb:Nat.ble dp 4 with
    |false=>simp only[hb,cB3]at hk;exact aD hk
    |true=>
    simp only[hb,bS3]at hk;have hb:=bP3 hb;refine⟨_,hk,?_⟩;rcases jI hv with⟨id,ver,F,len,j,rfl⟩|⟨j,rfl⟩
    obtain⟨_,_,rfl,hlen,_,els,q,hr⟩:=Fs p hg j;subst hlen;obtain⟨m,A,u⟩:=sW1 (n0:=0) (f:=5) (fun id o w=>⟨cQ3 _,(p.hr.zr id o w).1⟩) (by omega) (cQ3 _) q hr;exact⟨.is F m,A,u.is,fun D c=>by cases D<;>simp[Sim.closed]at c⟩;have:=Ft p hg j;subst this;exact⟨_,rfl,.isn,fun _ _=>.isn⟩
   |tr t rows hs=>
    obtain⟨ty,e,ks⟩:=t;cases hs with
    |cons a b=>exact aD hk
    |nil=>
    cases hb:Hs 4 (.nd ty e ks)with
    |false=>simp only[hb,cB3]at hk;exact aD hk
    |true=>
    simp only[hb,bS3]at hk;refine⟨_,hk,?_⟩;rcases jI hv with⟨id,ver,F,len,j,rfl⟩|⟨j,rfl⟩
    obtain⟨G,_,rfl,hlen,_,els,d,q,B,hr⟩:=mU p hg j;subst hlen;obtain⟨m,A,u⟩:=sX1 (n0:=0) (f:=4) (cQ3 _) G hb q B.1 hr;exact⟨.is F m,A,u.is,fun D c=>by cases D<;>simp[Sim.closed]at c⟩;have:=(tZ p hg j).1;subst this;exact⟨_,rfl,.isn,fun _ _=>.isn⟩
   |_=>exact aD hk
  |zs dp e rows=>
   cases hb:Nat.ble dp 5 with
   |false=>simp only[hb,cB3]at hk;exact aD hk
   |true=>
   simp only[hb,bS3]at hk;have hb:=bP3 hb;refine⟨_,hk,?_⟩;have w:=Ja hv;obtain⟨U,A,u⟩:=Wc (L:=Sim.look s.h) (n0:=0) (fun id o w=>⟨cQ3 _,(p.hr.zr id o w).1⟩) dp 6 (by omega) _ _ w;rcases Jb w with(⟨rows',rfl,hr⟩|⟨rfl,rfl⟩)|⟨d',id,ver,ty,els,_,rfl,_,_,_⟩
   exact⟨_,rfl,hr.is,fun _ _=>hr.is⟩;exact⟨_,rfl,.isn,fun _ _=>.isn⟩;exact⟨U,A,u.weak,fun D c=>by cases D<;>simp[Sim.closed]at c⟩
  |map k=>
   simp only[iN,bD3]at hk;obtain⟨ob,hg,hk⟩:=hk;cases ob with
   |mp es=>
    refine⟨_,hk,?_⟩;obtain⟨id,ver,e,len,j,rfl⟩:=Fp hv;obtain⟨_,es',q,he⟩:=Vr p hg j;refine⟨.im es',?_,he.er.im,fun D c=>by cases D<;>simp[Sim.closed]at c⟩;simp only[Cb,q];exact congrArg (Option.map AV.im) (eK1 he)
   |_=>exact aD hk
  |ref k o=>
   simp only[iN,bD3]at hk;obtain⟨ob,hg,hk⟩:=hk;cases ob with
   |box cs=>
    obtain⟨A,u⟩:=gP _ _ _ _ hk;obtain⟨id,ver,e,len,j,rfl⟩:=oD hv;obtain⟨_,ty,esz,row,q,hl⟩:=Ac p hg j;obtain⟨xs',l,q1,q2,q3,_⟩:=i _ _ _ r u (hl.drop o);refine⟨_,q1,.ip l,?_,.ip q3.1 q3.2,fun D c=>by cases D<;>simp[Sim.closed]at c⟩;rw[lO1 q rfl,q2];rfl
   |_=>exact aD hk
  |fn f a b=>
   obtain⟨a',b',rfl,h1,h2⟩:=yA hv;obtain⟨M,E,p1,p2,p3,p4⟩:=i _ _ _ r hk h1;obtain⟨T,N,q1,q2,q3,q4⟩:=i _ _ _ r p1 h2;refine⟨_,q1,.fn (.func f) E N,vZ1 p2 q2,.fn p3.1 q3.1 p3.2 q3.2,fun D c=>?_⟩;cases D with
   |zero=>simp[Sim.closed]at c
   |succ D=>
    simp only[Sim.closed,bF3,bJ3]at c;have w1:=p4 fun y hy=>⟨D,c.1 y hy⟩
    have w2:=q4 fun y hy=>⟨D,c.2 y hy⟩
    exact .fn w1.1 w2.1 w1.2 w2.2
  |agg cs=>
   obtain⟨cs',rfl,h1⟩:=qP hv;obtain⟨M,E,p1,p2,p3,p4⟩:=i _ _ _ r hk h1;refine⟨_,p1,.agg E,lP1 p2,.agg p3.1 p3.2,fun D c=>?_⟩;cases D with
   |zero=>simp[Sim.closed]at c
   |succ D=>
    simp only[Sim.closed,bJ3]at c;have w1:=p4 fun y hy=>⟨D,c y hy⟩
    exact .agg w1.1 w1.2
  |v x=>
   rw[jB hv];exact⟨_,hk,_,rfl,.v x,fun _ _=>.v x⟩
  |is e rows=>
   refine⟨_,hk,?_⟩;rcases wI hv with⟨rows',rfl,hr⟩|⟨rfl,rfl⟩
   exact⟨_,rfl,hr.is,fun _ _=>hr.is⟩;exact⟨_,rfl,.isn,fun _ _=>.isn⟩
  |ip cs=>
   obtain⟨cs',rfl,hl⟩:=Bq hv;exact⟨_,hk,_,rfl,.ip hl.1 hl.2,fun _ _=>.ip hl.1 hl.2⟩
  |im es=>
   obtain⟨es',rfl,he⟩:=Vq hv;exact⟨_,hk,_,rfl,he.im,fun _ _=>he.im⟩
  |_=>exact aD hk
def Bs (e:dI C n h lim s):∀(xs:aA PV) (ys:aA AV) (K:aA PV->aB R) (r:R),Cn h xs K=some r->LR (RV C) xs ys->
  ∃xs' b,K xs'=some r/\mapO (Cb (Sim.look s.h) 6) ys=some b/\LR (RC false) xs' b/\((∀y∈ys,∃D,Sim.closed D y=true)->LR (RC false) xs' ys)
 |[],ys,K,r,hk,hl=>by
  rw[hl.inv_nil]
  exact⟨[],[],hk,rfl,.nil,fun _=>.nil⟩
 |a::as,ys,K,r,hk,hl=>by
  obtain⟨y,b,rfl,h1,h2⟩:=hl.inv_cons
  unfold Cn at hk
  obtain⟨a',i,b',j,k,l⟩:=We e 5 a y _ r hk h1
  obtain⟨c,d,q1,q2,q3,q4⟩:=Bs e as b _ r i h2
  refine⟨a'::c,b'::d,q1,by simp only[mapO,j,q2],.cons k q3,fun hc=>?_⟩
  obtain⟨D,f⟩:=hc y (by simp)
  exact .cons (l D f) (q4 fun z g=>hc z (by simp[g]))
def sJ (T:lI) (f:FuncId) (xs:aA PV) (v:PV):Prop:=
 ∃ifn,T f=some ifn/\ifn.pure=true/\(zY 4 v=true->ifn.frz=true)/\∀ys,LR (RC false) xs ys->∃D,∀d,D<=d->∃y,Sim.runP T (exec T d) f ifn ys=some y/\RC false v y
def eL1:∀{d:Nat} {x:PV} {y:AV},zY d x=true->RC false x y->Sim.gnd d y=true
 |0,_,_,h,_=>by simp[zY]at h
 |d+1,x,y,hc,hr=>by
  have all:∀{xs:aA PV} {ys:aA AV},xs.all (zY d)=true->LR (RC false) xs ys->ys.all (Sim.gnd d)=true:=by
   intro xs ys c hl;rw[bJ3];intro y hy;obtain⟨x,a,b⟩:=Lj hl hy;exact eL1 (bJ3.1 c x a) b
  cases hr with
  |v x=>rfl
  |agg hl hcc=>simp only[zY]at hc;simp only[Sim.gnd];exact all hc ⟨hl,hcc⟩
  |tup hl hcc=>simp only[zY]at hc;simp only[Sim.gnd];exact all hc ⟨hl,hcc⟩
  |_=>simp[zY]at hc
def Pk {T:lI} {O:zF} (u:∀f xs v,O f xs=some v->sJ T f xs v) (w:dI C n h lim s) {f:FuncId} {xs:aA PV} {ys:aA AV} {K:PV->aB R} {r:R} (hk:Bn O f xs h K=some r) (q:LR (RV C) xs ys):
  ∃v y,K v=some r/\RC false v y/\(∃ifn,T f=some ifn/\ifn.pure=true/\(ifn.frz||ys.all (Sim.closed 4))=true)/\∃D,∀d,D<=d->∀m,Sim.callF T (exec T d) lim f ys {h:=s.h,n:=m}=some (y,{h:=s.h,n:=m}):=by
 unfold Bn at hk;by_cases hc:xs.all (eE 4)=true;rw[hc,bS3,cE,bD3]at hk;obtain⟨v,hv,hk⟩:=hk;rw[Pa]at hk;obtain⟨ifn,h1,h2,l,o⟩:=u f xs v hv;have i:LR (RC false) xs ys:=⟨q.1,fun j x y a b=>Ae (q.2 j x y a b) (bJ3.1 hc x (bO3 a))⟩
 have c:ys.all (Sim.closed 4)=true:=by
  rw[bJ3];intro y hy;obtain⟨x,z,A⟩:=Lj i hy;exact Jh (bJ3.1 hc x z) A
 obtain⟨D,g⟩:=o ys i;obtain⟨y,k,e⟩:=g D (bI3 _);refine⟨v,y,hk,e,⟨ifn,h1,h2,by rw[c];simp⟩,D,fun d hd m=>?_⟩;simp only[Sim.callF,h1,h2,cF3,c,Sim.mono_runP (Sim.mono_le T hd) k,cE3];simp only[eW3]at hc;rw[hc,cB3]at hk;obtain⟨xs',t,q1,q2,q3,q4⟩:=Bs w xs ys _ r hk q;rw[cE,bD3]at q1;obtain⟨v,hv,q1⟩:=q1;rw[Pa]at q1;cases hg:zY 4 v with
 |false=>rw[hg]at q1;exact aD q1
 |true=>
  rw[hg,bS3]at q1;obtain⟨ifn,h1,h2,l,o⟩:=u f xs' v hv;by_cases c:ys.all (Sim.closed 4)=true;obtain⟨D,g⟩:=o ys (q4 fun y hy=>⟨4,bJ3.1 c y hy⟩);obtain⟨y,k,e⟩:=g D (bI3 _);refine⟨v,y,q1,e,⟨ifn,h1,h2,by rw[l hg];rfl⟩,D,fun d hd m=>?_⟩;simp only[Sim.callF,h1,h2,cF3,c,Sim.mono_runP (Sim.mono_le T hd) k,cE3];obtain⟨D,g⟩:=o t q3;obtain⟨y,k,e⟩:=g D (bI3 _);have p:=eL1 hg e;refine⟨v,y,q1,e,⟨ifn,h1,h2,by rw[l hg];rfl⟩,D,fun d hd m=>?_⟩;simp only[Sim.callF,h1,h2,l hg,cF3,q2,Sim.mono_runP (Sim.mono_le T hd) k,p];rw[bM3 c]
end
end Go.P
namespace Go.P
open Go.Sim (AV AO Hp iJ upd St IC IX Ex hZ CK Wf Out doOp lI exec)
section
variable {R:Type} {C:Cx} {n:Nat} {h:aS} {lim:Nat} {s:Hp}
def mW (k:Nat) (C C':Cx):Prop:=(∀j,j≠k->C' j=C j)/\∀id o,C.z id=some o->C'.z id=some o
def Pm {C':Cx} {k:Nat} (m:mW k C C'):∀(d:Nat) (x:PV) (y:AV) (K:PV->aB R) (r:R),gH k d x K=some r->RV C x y->∃q,K q=some r/\RV C' q y
 |0,x,y,K,r,hk,_=>by unfold gH at hk;exact⟨_,hk,.undef⟩
 |d+1,x,y,K,r,hk,hv=>by
  have c:∀(xs:aA PV) (ys:aA AV) (K:aA PV->aB R) (r:R),gH.kills k d xs K=some r->LR (RV C) xs ys->∃xs',K xs'=some r/\LR (RV C') xs' ys:=by
   intro xs
   induction xs with
   |nil=>
    intro ys K r hk hl;rw[hl.inv_nil];unfold gH.kills at hk;exact⟨[],hk,.nil⟩
   |cons a as ih=>
    intro ys K r hk hl;obtain⟨y,p,rfl,h1,h2⟩:=hl.inv_cons;unfold gH.kills at hk;obtain⟨a',t,u⟩:=Pm m d a y _ r hk h1;obtain⟨n,q1,q2⟩:=ih p _ r t h2;exact⟨a'::n,q1,.cons u q2⟩
  have other:∀{pl:aB Pl} {j:Nat},C j=pl->j≠k->C' j=pl:=fun h s=>(m.1 _ s).trans h;unfold gH at hk;cases x with
  |zs d e rows=>exact⟨_,hk,.zs (RZ.mono m.2 (Ja hv))⟩
  |zm es=>
   rcases sS1 hv with⟨id,es',rfl,h1,h2⟩|⟨rfl,rfl⟩
   exact⟨_,hk,.zm (m.2 _ _ h1) h2⟩;exact⟨_,hk,.zm0⟩
  |own j=>
   simp only[bO]at hk;by_cases e:j=k;rw[cJ3 e]at hk;exact⟨_,hk,.undef⟩;rw[cI3 e]at hk;refine⟨_,hk,?_⟩;rcases jI hv with⟨id,ver,l,len,hc,rfl⟩|⟨hc,hy⟩
   exact .own (other hc e);exact .ownn (other hc e) hy
  |el j i o=>
   simp only[bO]at hk;by_cases e:j=k;rw[cJ3 e]at hk;exact⟨_,hk,.undef⟩;rw[cI3 e]at hk;obtain⟨id,ver,l,len,hc,rfl⟩:=tY hv;exact⟨_,hk,.el (other hc e)⟩
  |fn f a b=>
   obtain⟨a',b',rfl,h1,h2⟩:=yA hv;obtain⟨g,p1,p2⟩:=c _ _ _ r hk h1;obtain⟨w,q1,q2⟩:=c _ _ _ r p1 h2;exact⟨_,q1,.fn p2.1 q2.1 p2.2 q2.2⟩
  |agg cs=>
   obtain⟨cs',rfl,h1⟩:=qP hv;obtain⟨g,p1,p2⟩:=c _ _ _ r hk h1;exact⟨_,p1,.agg p2.1 p2.2⟩
  |tup cs=>
   obtain⟨cs',rfl,h1⟩:=Fo hv;obtain⟨g,p1,p2⟩:=c _ _ _ r hk h1;exact⟨_,p1,.tup p2.1 p2.2⟩
  |ref j o=>
   simp only[bO]at hk;by_cases e:j=k;rw[cJ3 e]at hk;exact⟨_,hk,.undef⟩;rw[cI3 e]at hk;obtain⟨id,ver,l,len,hc,rfl⟩:=oD hv;exact⟨_,hk,.ref (other hc e)⟩
  |map j=>
   simp only[bO]at hk;by_cases e:j=k;rw[cJ3 e]at hk;exact⟨_,hk,.undef⟩;rw[cI3 e]at hk;obtain⟨id,ver,l,len,hc,rfl⟩:=Fp hv;exact⟨_,hk,.map (other hc e)⟩
  |yld j=>
   simp only[bO]at hk;by_cases e:j=k;rw[cJ3 e]at hk;exact⟨_,hk,.undef⟩;rw[cI3 e]at hk;obtain⟨id,ver,l,len,hc,rfl⟩:=Lf hv;exact⟨_,hk,.yld (other hc e)⟩
  |v x=>rw[jB hv];exact⟨_,hk,.cl (.v x)⟩
  |is e rows=>exact⟨_,hk,.cl (by cases hv with|cl h=>exact h)⟩
  |ip cs=>exact⟨_,hk,.cl (by cases hv with|cl h=>exact h)⟩
  |im es=>exact⟨_,hk,.cl (by cases hv with|cl h=>exact h)⟩
  |undef=>exact⟨_,hk,.undef⟩
def Gb {k:Nat}:∀(d:Nat) (x:PV) (K:PV->aB R) (r:R),gH k d x K=some r->∃g,K g=some r/\∀{C C':Cx} {y:AV},mW k C C'->RV C x y->RV C' g y
  |d,x,K,r,hk=>by
    have n:∃g,(∀{R:Type} (K:PV->aB R),gH k d x K=K g):=by
      have q:∀(d:Nat) (x:PV),∃g,∀{R:Type} (K:PV->aB R),gH k d x K=K g:=by
        intro d
        induction d with
        |zero=>intro x;exact⟨.undef,fun K=>by unfold gH;rfl⟩
        |succ d ih=>
          have c:∀(xs:aA PV),∃xs',∀{R:Type} (K:aA PV->aB R),gH.kills k d xs K=K xs':=by
            intro xs
            induction xs with
            |nil=>exact⟨[],fun K=>by unfold gH.kills;rfl⟩
            |cons a as ihl=>
              obtain⟨a',h⟩:=ih a;obtain⟨m,p⟩:=ihl;exact⟨a'::m,fun K=>by unfold gH.kills;rw[h,p]⟩
          intro x;cases x with
          | own j => by_cases e:j=k
                     exact⟨.undef,fun K=>by unfold gH;simp[bO,e]⟩;exact⟨.own j,fun K=>by unfold gH;simp[bO,e]⟩
          | el j i o => by_cases e:j=k
                        exact⟨.undef,fun K=>by unfold gH;simp[bO,e]⟩;exact⟨.el j i o,fun K=>by unfold gH;simp[bO,e]⟩
          | ref j o => by_cases e:j=k
                       exact⟨.undef,fun K=>by unfold gH;simp[bO,e]⟩;exact⟨.ref j o,fun K=>by unfold gH;simp[bO,e]⟩
          |zs d e rows=>exact⟨.zs d e rows,fun K=>by unfold gH;rfl⟩
          |zm es=>exact⟨.zm es,fun K=>by unfold gH;rfl⟩
          | map j => by_cases e:j=k
                     exact⟨.undef,fun K=>by unfold gH;simp[bO,e]⟩;exact⟨.map j,fun K=>by unfold gH;simp[bO,e]⟩
          | yld j => by_cases e:j=k
                     exact⟨.undef,fun K=>by unfold gH;simp[bO,e]⟩;exact⟨.yld j,fun K=>by unfold gH;simp[bO,e]⟩
          |fn f a b=>
            obtain⟨a',h⟩:=c a;obtain⟨b',hb⟩:=c b;exact⟨.fn f a' b',fun K=>by unfold gH;simp only[h,hb]⟩
          |agg cs=>
            obtain⟨a',h⟩:=c cs;exact⟨.agg a',fun K=>by unfold gH;simp only[h]⟩
          |tup cs=>
            obtain⟨a',h⟩:=c cs;exact⟨.tup a',fun K=>by unfold gH;simp only[h]⟩
          |v x=>exact⟨.v x,fun K=>by unfold gH;rfl⟩
          |is e rows=>exact⟨.is e rows,fun K=>by unfold gH;rfl⟩
          |ip cs=>exact⟨.ip cs,fun K=>by unfold gH;rfl⟩
          |im es=>exact⟨.im es,fun K=>by unfold gH;rfl⟩
          |undef=>exact⟨.undef,fun K=>by unfold gH;rfl⟩
      exact q d x
    obtain⟨g,l⟩:=n;refine⟨g,by rw[<-hk];exact(l K).symm,fun{C C' y} s hv=>?_⟩;obtain⟨t,h1,h2⟩:=Pm (R:=PV) s d x y some g (l some) hv;cases h1;exact h2
def eM1 (k:Nat) (e e':gG):Prop:=∀i v',gD e' i=some v'->∃v,gD e i=some v/\∀{C C':Cx} {y:AV},mW k C C'->RV C v y->RV C' v' y
def lL {k:Nat}:∀(e:gG) (K:gG->aB R) (r:R),pH k e K=some r->∃e',K e'=some r/\eM1 k e e'
 |[],K,r,hk=>⟨[],hk,fun i v h=>by simp[gD]at h⟩
 |(j,v)::t,K,r,hk=>by
  unfold pH at hk
  obtain⟨v',a,c⟩:=Gb 3 v _ r hk
  obtain⟨b,q1,q2⟩:=lL t _ r a
  refine⟨(j,v')::b,q1,fun i w hw=>?_⟩
  simp only[gD]at hw ⊢
  split at hw
  grind
  rename_i e;rw[bM3 e];exact q2 i w hw
def yF (k:Nat) (h h':aS):Prop:=(∀j,aK h' j=none↔aK h j=none)/\∀j o',aK h' j=some o'->∃o,aK h j=some o/\iE o'=iE o/\
 ∀{C C':Cx} {L:Nat->aB AO} {lim nS:Nat} {pl:Pl},mW k C C'->C'.w=C.w->gX C L lim nS o pl->gX C' L lim nS o' pl
def Gc {k d:Nat}:∀(xs:aA PV) (K:aA PV->aB R) (r:R),gH.kills k d xs K=some r->∃xs',K xs'=some r/\∀{C C':Cx} {ys:aA AV},mW k C C'->LR (RV C) xs ys->LR (RV C') xs' ys
 |[],K,r,hk=>by
  unfold gH.kills at hk
  exact⟨[],hk,fun _ hl=>by rw[hl.inv_nil];exact .nil⟩
 |a::as,K,r,hk=>by
  unfold gH.kills at hk
  obtain⟨a',e,f⟩:=Gb d a _ r hk
  obtain⟨b,q1,q2⟩:=Gc as _ r e
  refine⟨a'::b,q1,fun c hl=>?_⟩
  obtain⟨y,g,rfl,h1,h2⟩:=hl.inv_cons
  exact .cons (f c h1) (q2 c h2)
def wA1 {C C':Cx} {fs b:aA PV} {els:aA (aA AV)} (h:∀{ys:aA AV},LR (RV C) fs ys->LR (RV C') b ys) (hl:els.length=fs.length) (hr:∀(i:Nat) (f:PV) (row:aA AV),fs[i]? =some f->els[i]? =some row->LR (RV C) [f] row):
  fs.length=b.length/\els.length=b.length/\∀(i:Nat) (f:PV) (row:aA AV),b[i]? =some f->els[i]? =some row->LR (RV C') [f] row:=by
 have hy:=h (ys:=els.map fun r=>r.headD default) ⟨by simp[hl],fun j x y m hy=>by
  simp only[cT3,bH3]at hy;obtain⟨row,a,rfl⟩:=hy;obtain⟨y,g,rfl,k,l⟩:=(hr j x row m a).inv_cons;exact k⟩
 have hlen:b.length=els.length:=by simpa using hy.1
 refine⟨by omega,by omega,fun i f row hf a=>?_⟩
 have e:∃c,fs[i]? =some c:=by
  have:=(bG3.1 a).1;exact⟨fs[i]'(by omega),by simp⟩
 obtain⟨c,d⟩:=e;obtain⟨y,g,rfl,k,l⟩:=(hr i c row d a).inv_cons;rw[l.inv_nil];exact .cons (hy.2 i f y hf (by simp[cT3,a])) .nil
def wL {k:Nat}:∀(hs:aA (Nat×Nat×PV)) (K:aA (Nat×Nat×PV)->aB R) (r:R),Fg k hs K=some r->∃c,K c=some r/\(hs=[]->c=[])/\∀i j,(Cd hs i j->Cd c i j)/\∀d,(j,i,d)∈c->∃x,(j,i,x)∈hs/\∀{C C':Cx} {y:AV},mW k C C'->RV C x y->RV C' d y
 |[],K,r,hk=>⟨[],hk,fun _=>rfl,fun i j=>⟨fun h=>h,fun d h=>by cases h⟩⟩
 |(a,b,x)::t,K,r,hk=>by
  unfold Fg at hk
  obtain⟨d,f,g⟩:=Gb 3 x _ r hk
  obtain⟨l,q1,q2,q3⟩:=wL t _ r f
  refine⟨_,q1,fun h=>(by cases h),fun i j=>⟨fun⟨y,hy⟩=>?_,fun y hy=>?_⟩⟩
  rcases bR3.1 hy with hy|hy
  cases hy;exact⟨d,List.mem_cons_self ..⟩
  obtain⟨z,e⟩:=(q3 i j).1 ⟨y,hy⟩
  exact⟨z,cY3 _ e⟩
  grind
def mF {k:Nat}:∀(h:aS) (K:aS->aB R) (r:R),lU k h K=some r->∃h',K h'=some r/\yF k h h'
 |[],K,r,hk=>⟨[],hk,fun j=>Iff.rfl,fun j o h=>by simp[aK]at h⟩
 |(j,o)::t,K,r,hk=>by
  have fin:∀(o':dX),lU k t (fun r=>K ((j,o')::r))=some r->iE o'=iE o->(∀{C C':Cx} {L:Nat->aB AO} {lim nS:Nat} {pl:Pl},mW k C C'->C'.w=C.w->gX C L lim nS o pl->gX C' L lim nS o' pl)->∃h',K h'=some r/\yF k ((j,o)::t) h':=by
   intro o' hk hb f;obtain⟨G,q1,q2,q3⟩:=mF t _ r hk;refine⟨(j,o')::G,q1,fun i=>?_,fun i w hw=>?_⟩;simp only[aK];split;simp;exact q2 i;simp only[aK]at hw ⊢;split at hw
   grind
   grind
  unfold lU at hk;cases o with
  |box cs=>
   obtain⟨cs',z,p⟩:=Gc cs _ r hk;refine fin _ z rfl (fun{C C' L lim nS pl} l hw f=>?_);cases pl with
   |nil=>exact f
   |atp id ver e len=>
    obtain⟨h1,h2,ty,esz,row,m,n⟩:=f;exact⟨h1,h2,ty,esz,row,m,p l n⟩
  |lst ty e g rows=>exact fin _ hk rfl (fun{C C' L lim nS pl} l hw f=>by cases pl<;>exact f)
  |lz ty e dp rows=>
   refine fin _ hk rfl (fun{C C' L lim nS pl} l hw f=>?_);cases pl with
   |nil=>exact f
   |atp id ver e3 len=>
    obtain⟨h1,h2,m,n,s,els,u,A⟩:=f;exact⟨h1,h2,m,n,s,els,u,A.mono l.2⟩
  |mp es=>exact fin _ hk rfl (fun{C C' L lim nS pl} l hw f=>by cases pl<;>exact f)
  |fl fs=>
   obtain⟨D,z,p⟩:=Gc fs _ r hk;refine fin _ z rfl (fun{C C' L lim nS pl} l hw f=>?_);cases pl with
   |nil=>exact f
   |atp id ver e len=>
    obtain⟨h1,h2,m,n,ty,els,s,u,A⟩:=f;obtain⟨a,b,c⟩:=wA1 (p l) u A;exact⟨h1,h2,m,by rw[n,a],ty,els,s,b,c⟩
  |loop N e ps a b busy fi=>
   obtain⟨e',z,p⟩:=lL e _ r hk;refine fin _ z rfl (fun{C C' L lim nS pl} l hw f=>?_);cases pl with
   |nil=>exact f
   |atp id ver e3 len=>
    obtain⟨h1,h2,st,pend,tmps,m,n,s,u⟩:=f;refine⟨h1,h2,st,pend,tmps,m,n,fun i v hv=>?_,u⟩;obtain⟨w,w1,w2⟩:=p i v hv;obtain⟨y,J,M⟩:=s i w w1;exact⟨y,J,w2 l M⟩
  |tr t rows hs=>
   obtain⟨E,z,p⟩:=wL hs _ r hk;refine fin _ z rfl (fun{C C' L lim nS pl} l hw f=>?_);obtain⟨ty,e,ks⟩:=t;cases pl with
   |nil=>exact⟨f.1,by have:=f.2;subst this;simpa using p.1⟩
   |atp id ver e3 len=>
    obtain⟨h1,h2,m,n,s,els,d,u,A,B⟩:=f;refine⟨h1,h2,m,n,s,els,d,u,A,fun i r r' a b=>⟨(B i r r' a b).1,fun j x y c1 c2=>?_⟩⟩;have:=(B i r r' a b).2 j x y c1 c2;unfold TC at this ⊢;cases hk:iH ks j with
    |none=>rw[hk]at this;exact this
    |some t=>
     rw[hk]at this;simp only at this ⊢;rw[hw];have q:=p.2 i j;rcases this with⟨a1,a2⟩|⟨a1,a2⟩
     grind
     exact .inr ⟨fun⟨H,F⟩=>by
      obtain⟨x,p1,_⟩:=q.2 H F;exact a1 ⟨x,p1⟩,a2⟩
def eN1 (c:dI C n h lim s) {e:Nat} {x:PV} {y:AV} {K:aA (aA PV)->aB R} {r:R} (hk:dD1 h e x K=some r) (hv:RV C x y):∃rows rows',K rows=some r/\Sim.rowsOf (Sim.look s.h) e y=some rows'/\RR rows rows':=by
 unfold dD1 at hk;split at hk;rename_i e' rows;rw[bO]at hk;by_cases a:e'=e;subst a;rw[cJ3 rfl,bS3]at hk;rcases Vp hv with⟨rows',rfl,hr⟩|⟨rfl,rfl|rfl⟩
 exact⟨rows,rows',hk,by simp[Sim.rowsOf],hr⟩;exact⟨[],[],hk,rfl,.nil⟩;exact⟨[],[],hk,rfl,.nil⟩
 grind
 rename_i k;simp only[iN,bD3]at hk;obtain⟨ob,hg,hk⟩:=hk;cases ob with
 |lst ty e' g rows=>
  simp only[bO]at hk;by_cases a:e'=e;subst a;rw[cJ3 rfl,bS3]at hk;rcases lA hv with⟨id,ver,i,len,b,rfl⟩|⟨b,hy⟩
  obtain⟨_,rfl,hlen,els,d,hr,f,_⟩:=lZ c hg b;subst hlen;refine⟨rows,els.take rows.length,hk,?_,hr⟩;simp only[Sim.rowsOf,d];rw[bK3 ⟨by trivial,by trivial,by omega⟩,dA3];have:=nO c hg b;subst this;rcases hy with rfl|rfl;exact⟨[],[],hk,rfl,.nil⟩;exact⟨[],[],hk,rfl,.nil⟩
  grind
 |_=>exact aD hk
 rw[jB hv];exact⟨[],[],hk,rfl,.nil⟩;exact aD hk
def mv (C:Cx) (k:Nat) (pl:Pl):Cx:=⟨fun j=>if j=k then some pl else C j,C.z,C.w⟩
def fY (C:Cx) (k:Nat) (pl:Pl):mW k C (mv C k pl):=⟨fun j a=>bM3 a,fun _ _ h=>h⟩
def qE (C:Cx) (k:Nat) (pl:Pl):mv C k pl k=some pl:=bK3 rfl
def mW.self {k:Nat} {C:Cx}:mW k C C:=⟨fun _ _=>rfl,fun _ _ h=>h⟩
def Tj {k:Nat} {po po':dX} {h1:aS} {C':Cx} (hg:aK h k=some po) (hkl:yF k h h1) (hb:iE po'=false) (c:mW k C C'):
  ∀j o,aK h j=some o->∃o',aK (cZ h1 k po') j=some o'/\(iE o'=true->iE o=true/\C' j=C j):=by
 intro j o a
 have d:(aK h1 k).isSome=true:=by
  cases hc:aK h1 k with
  |none=>rw[(hkl.1 k).1 hc]at hg;cases hg
  |some o=>rfl
 rw[eN];by_cases b:j=k
 grind
 rw[bM3 (fun h=>b h.1)];cases hc:aK h1 j with
 |none=>rw[(hkl.1 j).1 hc]at a;cases a
 |some o'=>
  obtain⟨o0,q1,e,_⟩:=hkl.2 j o' hc;rw[a]at q1;cases q1;exact⟨o',rfl,fun h=>⟨by rw[<-e];exact h,c.1 j b⟩⟩
def Pn (b:dI C n h lim s) {k id ver e len} {po po2:dX} {h1:aS} {s':Hp} (hg:aK h k=some po) (hkl:yF k h h1)
  (hs:s.n<=s'.n) (hw:Wf s'.h s'.n) (D:Sk s.h s'.h s.n) (a:∀i,i<s.n->i≠id->Sim.look s'.h i=Sim.look s.h i) (hid:s.n<=id\/∃v e l,C k=some (.atp id v e l))
  (J:gX (mv C k (.atp id ver e len)) (Sim.look s'.h) lim s'.n po2 (.atp id ver e len)) (A:iE po2=false):
  dI (mv C k (.atp id ver e len)) n (cZ h1 k po2) lim s'/\Fr C h s (mv C k (.atp id ver e len)) (cZ h1 k po2) s':=by
 have B:(aK h1 k).isSome=true:=by
  cases hc:aK h1 k with
  |none=>rw[(hkl.1 k).1 hc]at hg;cases hg
  |some o=>rfl
 have m:∀j,aK (cZ h1 k po2) j=if j=k then some po2 else aK h1 j:=fun j=>by
  rw[eN];simp[B]
 have c:∀j,aK (cZ h1 k po2) j≠none->aK h j≠none:=fun j f=>by
  rw[m]at f;split at f
  grind
  exact fun hc=>f ((hkl.1 j).2 hc)
 have t:C.w id=none:=by
  rcases hid with hid|⟨v',e',l',hid⟩
  cases d:C.w id with
  |none=>rfl
  |some sl=>have:=(b.hr.wb id sl d).1;omega
  exact b.hr.wn k id v' e' l' (by rw[hg];simp) hid
 have p:∀j v e l,j≠k->aK h j≠none->C j≠some (.atp id v e l):=by
  intro j v e2 l f F hc;rcases hid with hid|⟨v',e',l',hid⟩
  have:=(b.hr.lt F hc).2;omega;exact f (b.hr.inj j k id _ _ _ _ _ _ F (by rw[hg];simp) hc hid)
 refine⟨⟨⟨fun j o f=>?_,fun j q i v1 g x v2 e2 L a1 a2 a3 a4=>?_,fun i o K=>?_,fun j i v1 g x a1 a2=>?_,fun i sl hw=>⟨cO3 (b.hr.wb i sl hw).1 hs,cO3 (b.hr.wb i sl hw).2 hs⟩,b.hr.wz⟩,fun j pl f=>?_,hw,cH3 b.lim hs⟩,⟨D,hs,fun i hi hn=>a i hi (fun g=>hn ?_),fun i hi hn=>?_,Tj hg hkl A (fY C k _),fun _ _ h=>h,fun _ _ h=>.inl h⟩⟩;rw[m]at f;split at f;rename_i g;subst g;cases f;exact⟨_,qE C j _,J⟩;rename_i y;obtain⟨o0,q1,M,q2⟩:=hkl.2 j o f;obtain⟨pl,u,z⟩:=b.hr.ob j o0 q1;refine⟨pl,((fY C k _).1 j y).trans u,?_⟩;have G:gX (mv C k (.atp id ver e len)) (Sim.look s.h) lim s.n o pl:=q2 (fY C k _) rfl z;refine G.mono hs (.refl _) (fun i v1 g x hp=>?_) (fun H sl d=>⟨d,a H (b.hr.wb H sl d).1 fun e2=>by rw[e2]at d;rw[show(mv C k (.atp id ver e len)).w=C.w from rfl,t]at d;cases d⟩);subst hp;exact a i G.lt.2 (fun e2=>by subst e2;exact p j _ _ _ y (by rw[q1];simp) u);by_cases b1:j=k;by_cases b2:q=k;rw[b1,b2];exfalso;subst b1;rw[qE]at a3;cases a3;rw[(fY C j _).1 q b2]at a4;exact p q _ _ _ b2 (c q a2) a4;by_cases b2:q=k;exfalso;subst b2;rw[qE]at a4;cases a4;rw[(fY C q _).1 j b1]at a3;exact p j _ _ _ b1 (c j a1) a3;rw[(fY C k _).1 j b1]at a3;rw[(fY C k _).1 q b2]at a4;exact b.hr.inj j q i v1 g x v2 e2 L (c j a1) (c q a2) a3 a4;obtain⟨z1,z2,z3,z4⟩:=b.hr.zr i o K;have r:i≠id:=fun g=>by grind
 refine⟨(a i z2 r).trans z1,cO3 z2 hs,fun j v e' l h1 h2=>?_,z4⟩;by_cases b1:j=k;subst b1;rw[qE]at h2;cases h2;exact r rfl;exact z3 j v e' l (c j h1) (((fY C k _).1 j b1).symm.trans h2);by_cases b1:j=k;subst b1;rw[qE]at a2;cases a2;exact t;exact b.hr.wn j i v1 g x (c j a1) (((fY C k _).1 j b1).symm.trans a2);by_cases b1:j=k;subst b1;obtain⟨E,u,_⟩:=b.hr.ob j _ hg;exact b.dom j E u;exact b.dom j pl (((fY C k _).1 j b1).symm.trans f);subst g;rcases hid with hid|⟨v',e',l',hid⟩
 omega;exact .inl ⟨k,v',e',l',by rw[hg];simp,hid⟩;rcases hn with⟨j,v1,g,x,u,z⟩|hn;by_cases b1:j=k;subst b1;rw[qE]at z;cases z;rcases hid with hid|⟨v',e',l',hid⟩
 omega;exact .inl ⟨j,v',e',l',by rw[hg];simp,hid⟩;exact .inl ⟨j,v1,g,x,c j u,((fY C k _).1 j b1).symm.trans z⟩;exact .inr hn
end
end Go.P
