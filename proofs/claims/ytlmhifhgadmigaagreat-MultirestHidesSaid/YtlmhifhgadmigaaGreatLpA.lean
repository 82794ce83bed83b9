import Derived.Test.YtlmhifhgadmigaaGreatLaB
/- A text of the proof. -/
set_option linter.all false
namespace Go.P
open Go.Sim (dW CK Ex RV maxRoom)
inductive PV where
 |v (x:Value)
 |is (esz:Nat) (rows:List (List PV))
 |ip (cells:List PV)
 |im (es:List (PV×PV))
 |ref (k o:Nat)
 |own (k:Nat)
 |el (k i o:Nat)
 |map (k:Nat)
 |fn (f:FuncId) (first cap:List PV)
 |agg (cells:List PV)
 |tup (vs:List PV)
 |undef
 |yld (k:Nat)
 |zs (d e:Nat) (rows:List (List PV))
 |zm (es:List (PV×PV))
 deriving Inhabited
inductive PX where
 |t (i:Nat)
 |c (x:PV)
 deriving Inhabited
inductive gC where
 |nil
 |op (d:Nat) (k:dW) (xs:List PX) (kill:List Nat) (bY:gC)
 |sto (k:dW) (xs:List PX) (kill:List Nat) (bY:gC)
 |ifx (d c:Nat) (w:Bool) (body:gC) (x:PX) (kill:List Nat) (bY:gC)
 |ifn (d c:Nat) (w:Bool) (body:gC) (x:PX) (kill:List Nat) (bY:gC)
 |mkfl (d:Nat) (ty:TypeId) (zero:List Value) (xs:List PX) (kill:List Nat) (bY:gC)
 |lax (d:Nat) (es:List (Option Nat)) (bY:gC)
 |own (d:Nat) (ty:TypeId) (e:Nat) (g:Bool) (bY:gC)
 |ownc (d j:Nat) (ty:TypeId) (e:Nat) (g:Bool) (bY:gC)
 |laxc (d j e:Nat) (bY:gC)
 |fz (d:Nat) (j:Option Nat) (bY:gC)
 |laxm (d:Nat) (j:Option Nat) (bY:gC)
 deriving Inhabited
inductive PC where
 |skip
 |reg (ops:gC)
 |regD (dr:Nat) (ops:gC) (before:List Nat)
 |dead (c:Go.Sim.IC)
 |regX (dr:Nat) (ops:gC) (before:List Nat) (ex:List (Nat×Nat×Nat×Nat))
 |seq (a b:PC)
 |cond (c:PX) (a b:PC)
 |condJ (keep:List Nat) (c:PX) (a b:PC)
 |condL (c:PX) (a b:PC)
 |block (id:Nat) (c:PC)
 |loop (keep kx:List Nat) (c:PC)
 |loopU (m:Nat) (keep:List Nat) (c:PC)
 |rangeF (N:Nat) (keep:List Nat) (f:PX) (params:List Nat) (asn body:PC)
 |exit (id:Nat)
 |ret
 deriving Inhabited
abbrev dY:=aA (Nat×PV)
inductive fP where
 |box (cells:List PV)
 |lst (ty:TypeId) (esz:Nat) (g:Bool) (rows:List (List PV))
 |mp (es:List (PV×PV))
 |fl (fs:List PV)
 |lz (ty:TypeId) (esz dp:Nat) (rows:List (List PV))
 |loop (N:Nat) (e:dY) (params:List Nat) (asn body:PC) (busy:Bool) (fin:Option Ex)
abbrev aQ:=aA (Nat×fP)
def fM (ty:Nat):Bool:=Nat.ble 4294967296 ty
def zD (ty:Nat):Nat:=bif fM ty then ty-4294967296 else ty
theorem Ue:∃f:{R:Type}->Bool->aB R->aB R->aB R,∀{R:Type} b (x y:aB R),f b x y=if b then x else y:=⟨fun b x y=>if b then x else y,fun _ _ _=>rfl⟩
noncomputable def Is {R:Type} (b:Bool) (x y:aB R):aB R:=Classical.choose Ue b x y
theorem mJ {R:Type} (b:Bool) (x y:aB R):Is b x y=if b then x else y:=sO2 Ue b x y
theorem Gk:∃f:{A R:Type}->aB A->(A->aB R)->aB R,∀{A R:Type} (x:aB A) (k:A->aB R),f x k=x.bind k:=⟨fun x k=>x.bind k,fun _ _=>rfl⟩
noncomputable def bU {A R:Type} (x:aB A) (k:A->aB R):aB R:=Classical.choose Gk x k
theorem bO {A R:Type} (x:aB A) (k:A->aB R):bU x k=x.bind k:=sO2 Gk x k
noncomputable section
variable {R:Type}
def Jz (x:Value) (K:Value->aB R):aB R:=
 match x with
 |.int k n=>K (.int k n)
 |.bool b=>K (.bool b)
 |.string s=>K (.string s)
 |x=>K x
def fPV (x:PV) (K:PV->aB R):aB R:=
 match x with
 |.v x=>Jz x fun x=>K (.v x)
 |.is e rows=>K (.is e rows)
 |.ip cs=>K (.ip cs)
 |.im es=>K (.im es)
 |.ref k o=>K (.ref k o)
 |.own k=>K (.own k)
 |.el k i o=>K (.el k i o)
 |.map k=>K (.map k)
 |.fn f a b=>K (.fn f a b)
 |.agg cs=>K (.agg cs)
 |.tup cs=>K (.tup cs)
 |.undef=>K .undef
 |.yld k=>K (.yld k)
 |.zs d e rows=>K (.zs d e rows)
 |.zm es=>K (.zm es)
def rF:aA PV->(aA PV->aB R)->aB R
 |[],K=>K []
 |x::xs,K=>fPV x fun x=>rF xs fun xs=>K (x::xs)
def fV (x:PV) (K:PV->aB R):aB R:=
 match x with
 |.v x=>Jz x fun x=>K (.v x)
 |.agg cs=>rF cs fun cs=>K (.agg cs)
 |.tup cs=>fT cs fun cs=>K (.tup cs)
 |.ip cs=>rF cs fun cs=>K (.ip cs)
 |.is e rows=>K (.is e rows)
 |.im es=>K (.im es)
 |.ref k o=>K (.ref k o)
 |.own k=>K (.own k)
 |.el k i o=>K (.el k i o)
 |.map k=>K (.map k)
 |.fn f a b=>rF a fun a=>rF b fun b=>K (.fn f a b)
 |.undef=>K .undef
 |.yld k=>K (.yld k)
 |.zs d e rows=>K (.zs d e rows)
 |.zm es=>K (.zm es)
 where
 fT:aA PV->(aA PV->aB R)->aB R
 |[],K=>K []
 |x::xs,K=>(match x with
   |.agg cs=>rF cs fun cs=>fT xs fun xs=>K (.agg cs::xs)
   |x=>fPV x fun x=>fT xs fun xs=>K (x::xs))
def mU:dY->Nat->(PV->aB R)->aB R
 |[],_,_=>none
 |(j,v)::r,i,K=>bif Nat.beq j i then K v else mU r i K
def zL:Nat->aA Nat->Bool
 |_,[]=>false
 |i,j::js=>bif Nat.beq i j then true else zL i js
def gL:dY->aA Nat->(dY->aB R)->aB R
 |[],_,K=>K []
 |(j,v)::r,is,K=>bif zL j is then gL r is K else gL r is fun r=>K ((j,v)::r)
def nM (e:dY):aA PX->(aA PV->aB R)->aB R
 |[],K=>K []
 |.t i::xs,K=>mU e i fun v=>nM e xs fun vs=>K (v::vs)
 |.c x::xs,K=>nM e xs fun vs=>K (x::vs)
def nN:Nat->aA PV->(aA PV->aB R)->aB R
 |0,_,K=>K []
 |_+1,[],_=>none
 |n+1,a::as,K=>nN n as fun l=>K (a::l)
def fX:Nat->aA PV->(aA PV->aB R)->aB R
 |0,l,K=>K l
 |_+1,[],_=>none
 |n+1,_::as,K=>fX n as K
def pR:aA PV->Nat->aA PV->(aA PV->aB R)->aB R
 |l,0,[],K=>K l
 |[],_,_,_=>none
 |_::as,0,c::cs,K=>pR as 0 cs fun l=>K (c::l)
 |a::as,n+1,cs,K=>pR as n cs fun l=>K (a::l)
def hK:aQ->Nat->(fP->aB R)->aB R
 |[],_,_=>none
 |(j,v)::r,i,K=>bif Nat.beq j i then K v else hK r i K
def fY:aQ->Nat->fP->(aQ->aB R)->aB R
 |[],_,_,_=>none
 |(j,v)::r,i,o,K=>bif Nat.beq j i then K ((j,o)::r)else fY r i o fun r=>K ((j,v)::r)
def lE (x:PV) (K:aA PV->aB R):aB R:=
 match x with
 |.agg cs=>K cs
 |.tup _=>none
 |.undef=>none
 |x=>K [x]
def kEq (a b:IntKind):Bool:=
 match a,b with
 |.i8,.i8|.i16,.i16|.i32,.i32|.i64,.i64|.u8,.u8|.u16,.u16|.u32,.u32|.u64,.u64=>true
 |_,_=>false
def jE1 (op:BinOp) (x y:PV) (K:PV->aB R):aB R:=
 match x,y with
 |.v x,.v y=>
  match x,y with
  |.int k a,.int k' b=>
   match op with
   |.shl=>bU (if b<0 then none else some (k.wrap (a*2^min b.toNat k.bits))) fun r=>K (.v (.int k r))
   |.shr=>bU (if b<0 then none else some (a.fdiv (2^min b.toNat k.bits))) fun r=>K (.v (.int k r))
   |_=>bif kEq k k' then match op with
    |.add=>K (.v (.int k (k.wrap (a+b))))
    |.sub=>K (.v (.int k (k.wrap (a-b))))
    |.mul=>K (.v (.int k (k.wrap (a*b))))
    |.quo=>bU (if b=0 then none else some (k.wrap (a.tdiv b))) fun r=>K (.v (.int k r))
    |.rem=>bU (if b=0 then none else some (a.tmod b)) fun r=>K (.v (.int k r))
    |.and=>K (.v (.int k (k.wrap (BitVec.ofInt k.bits a&&&BitVec.ofInt k.bits b).toNat)))
    |.or=>K (.v (.int k (k.wrap (BitVec.ofInt k.bits a|||BitVec.ofInt k.bits b).toNat)))
    |.xor=>K (.v (.int k (k.wrap (BitVec.ofInt k.bits a^^^BitVec.ofInt k.bits b).toNat)))
    |.andNot=>K (.v (.int k (k.wrap (BitVec.ofInt k.bits a&&& ~~~ BitVec.ofInt k.bits b).toNat)))
    |.eql=>K (.v (.bool (a==b)))
    |.neq=>K (.v (.bool (a !=b)))
    |.lss=>K (.v (.bool (decide (a<b))))
    |.leq=>K (.v (.bool (decide (a<=b))))
    |.gtr=>K (.v (.bool (decide (a>b))))
    |.geq=>K (.v (.bool (decide (a>=b))))
    |_=>none
   else none
  |.string a,.string b=>
   match op with
   |.add=>bU (if a.size+b.size<=2^62 then some (a++b)else none) fun r=>K (.v (.string r))
   |.eql=>K (.v (.bool (a.toList==b.toList)))
   |.neq=>K (.v (.bool !(a.toList==b.toList)))
   |.lss=>K (.v (.bool (Op.bytesLess a.toList b.toList)))
   |.leq=>K (.v (.bool (Op.bytesLess a.toList b.toList||a.toList==b.toList)))
   |.gtr=>K (.v (.bool !(Op.bytesLess a.toList b.toList||a.toList==b.toList)))
   |.geq=>K (.v (.bool !(Op.bytesLess a.toList b.toList)))
   |_=>none
  |_,_=>none
 |_,_=>none
def Zp:aA CK->aA PV->aA PV->(Bool->aB R)->aB R
 |[],[],[],K=>K true
 |k::ks,a::as,b::bs,K=>Zp ks as bs fun r=>match k,a,b with
  |.i,.v (.int j x),.v (.int j' y)=>bif kEq j j' then K ((x==y)&&r)else none
  |.b,.v (.bool x),.v (.bool y)=>K ((x==y)&&r)
  |.s,.v (.string x),.v (.string y)=>K ((x==y)&&r)
  |_,_,_=>none
 |_,_,_,_=>none
def sX (rows:aA (aA PV)) (i:Int):aB (aA PV):=if 0<=i then rows[i.toNat]? else none
def rG (n:Nat) (i:Int):aB Nat:=if 0<=i/\i<n then some i.toNat else none
def lM (rows:aA (aA PV)) (l h:Int):aB (aA (aA PV)):=
 if 0<=l/\l<=h/\h<=rows.length then some ((rows.drop l.toNat).take (h.toNat-l.toNat))else none
def nO (s:ByteArray) (i:Int):aB Int:=if 0<=i then(s.data.toList[i.toNat]?).map fun b=>(b.toNat:Int)else none
def xH (rows:aA (aA PV)) (i o:Nat) (cs:aA PV):aB (aA (aA PV)):=
 match rows[i]? with
 |some row=>if o+cs.length<=row.length then some (rows.set i (Sim.setL row o cs))else none
 |none=>none
def xI (rows:aA (aA PV)) (i o:Nat):aB PV:=(rows[i]?).bind fun row=>row[o]?
def rH (rows:aA (aA PV)) (i o n:Nat):aB (aA PV):=(rows[i]?).bind fun row=>if o+n<=row.length then some ((row.drop o).take n)else none
def rI (cs:aA PV) (i:Int) (len esz:Nat):aB PV:=if 0<=i/\i<len then cs[i.toNat*esz]? else none
def nP (cs:aA PV) (i:Int) (len esz:Nat):aB (aA PV):=if 0<=i/\i<len/\(i.toNat+1)*esz<=cs.length then some ((cs.drop (i.toNat*esz)).take esz)else none
def byteRows (s:ByteArray):aA (aA PV):=s.data.toList.map fun b=>[.v (.int .u8 b.toNat)]
def appRows (g:Bool) (rows new:aA (aA PV)):aB (aA (aA PV)):=
 if rows.length+new.length<=maxRoom/\(g=true->new.length<=1)then some (rows++new)else none
def oJ (rows:aA (aA PV)) (h:Int):aB (aA (aA PV)):=if 0<=h/\h<=rows.length then some (rows.take h.toNat)else none
def nQ (l c:Int) (zero:aA PV):aB (aA (aA PV)):=if 0<=l/\l<=c/\c<=maxRoom then some (List.replicate l.toNat zero)else none
def oK:CK->PV->PV->aB Bool
 |.i,.v (.int k a),.v (.int k' b)=>if k=k' then some (a==b)else none
 |.b,.v (.bool a),.v (.bool b)=>some (a==b)
 |.s,.v (.string a),.v (.string b)=>some (a==b)
 |_,_,_=>none
def iQ:aA CK->aA PV->aA PV->aB Bool
 |[],[],[]=>some true
 |k::ks,a::as,b::bs=>match oK k a b with
  |some true=>iQ ks as bs
  |some false=>some false
  |none=>none
 |_,_,_=>none
def pS (agg:Bool) (ks:aA CK) (a b:PV):aB Bool:=
 if agg then match a,b with
  |.agg as,.agg bs=>if as.length=ks.length/\bs.length=ks.length then iQ ks as bs else none
  |_,_=>none
 else iQ ks [a] [b]
def rJ (agg:Bool) (ks:aA CK) (k:PV):aA (PV×PV)->Nat->aB (aB (Nat×PV))
 |[],_=>some none
 |(k',x)::r,i=>match pS agg ks k k' with
  |some true=>some (some (i,x))
  |some false=>rJ agg ks k r (i+1)
  |none=>none
def sY (agg:Bool) (ks:aA CK):PV->Bool
 |.agg as=>agg&&as.length==ks.length
 |.v _=> !agg
 |_=>false
def pT (agg:Bool) (ks:aA CK) (zero k:PV) (es:aA (PV×PV)):aB PV:=
 if sY agg ks k then(rJ agg ks k es 0).map fun r=>match r with|some (_,x)=>x|none=>zero else none
def mK (agg:Bool) (ks:aA CK) (zero k:PV) (es:aA (PV×PV)):aB (PV×Bool):=
 if sY agg ks k then(rJ agg ks k es 0).map fun r=>match r with|some (_,x)=>(x,true)|none=>(zero,false)else none
def xJ (agg:Bool) (ks:aA CK) (k x:PV) (es:aA (PV×PV)):aB (aA (PV×PV)):=
 if sY agg ks k then(rJ agg ks k es 0).map fun r=>match r with|some (i,_)=>es.set i (k,x)|none=>es++[(k,x)]else none
def cY:Nat->PV->Bool
 |0,_=>false
 |d+1,x=>match x with
  |.v _|.is _ _|.ip _|.im _=>true
  |.fn _ a b=>a.all (cY d)&&b.all (cY d)
  |.agg cs=>cs.all (cY d)
  |.tup cs=>cs.all (cY d)
  |_=>false
def eO:PV->Bool
 |.v _|.is _ _|.ip _=>true
 |_=>false
def Ka:PV->Bool
 |.agg cs=>cs.all eO
 |x=>eO x
def sZ:Nat->PV->Bool
 |0,_=>false
 |d+1,x=>match x with
  |.v _=>true
  |.agg cs=>cs.all (sZ d)
  |.tup cs=>cs.all (sZ d)
  |_=>false
def oY (f:PV->(PV->aB R)->aB R):aA PV->(aA PV->aB R)->aB R
 |[],K=>K []
 |x::xs,K=>f x fun x=>oY f xs fun xs=>K (x::xs)
def Cq (h:aQ):Nat->PV->(PV->aB R)->aB R
 |0,_,_=>none
 |d+1,x,K=>match x with
  |.own k=>hK h k fun ob=>match ob with
   |.lst _ e _ rows=>K (.is e rows)
   |.lz _ e dp rows=>bif Nat.ble dp 4 then K (.is e rows)else none
   |_=>none
  |.zs dp e rows=>bif Nat.ble dp 5 then K (.is e rows)else none
  |.map k=>hK h k fun ob=>match ob with
   |.mp es=>K (.im es)
   |_=>none
  |.ref k o=>hK h k fun ob=>match ob with
   |.box cs=>fX o cs fun cs=>oY (Cq h d) cs fun cs=>K (.ip cs)
   |_=>none
  |.fn f a b=>oY (Cq h d) a fun a=>oY (Cq h d) b fun b=>K (.fn f a b)
  |.agg cs=>oY (Cq h d) cs fun cs=>K (.agg cs)
  |.v x=>K (.v x)
  |.is e rows=>K (.is e rows)
  |.ip cs=>K (.ip cs)
  |.im es=>K (.im es)
  |_=>none
def dE (k:Nat):Nat->PV->(PV->aB R)->aB R
 |0,_,K=>K .undef
 |d+1,x,K=>match x with
  |.own j=>bif Nat.beq j k then K .undef else K (.own j)
  |.el j i o=>bif Nat.beq j k then K .undef else K (.el j i o)
  |.ref j o=>bif Nat.beq j k then K .undef else K (.ref j o)
  |.map j=>bif Nat.beq j k then K .undef else K (.map j)
  |.yld j=>bif Nat.beq j k then K .undef else K (.yld j)
  |.fn f a b=>kills d a fun a=>kills d b fun b=>K (.fn f a b)
  |.agg cs=>kills d cs fun cs=>K (.agg cs)
  |.tup cs=>kills d cs fun cs=>K (.tup cs)
  |x=>K x
 where
 kills (d:Nat):aA PV->(aA PV->aB R)->aB R
 |[],K=>K []
 |x::xs,K=>dE k d x fun x=>kills d xs fun xs=>K (x::xs)
def mS (k:Nat):dY->(dY->aB R)->aB R
 |[],K=>K []
 |(j,v)::r,K=>dE k 3 v fun v=>mS k r fun r=>K ((j,v)::r)
def iR (k:Nat):aQ->(aQ->aB R)->aB R
 |[],K=>K []
 |(j,o)::r,K=>match o with
  |.box cs=>dE.kills k 2 cs fun cs=>iR k r fun r=>K ((j,.box cs)::r)
  |.lst ty e g rows=>iR k r fun r=>K ((j,.lst ty e g rows)::r)
  |.mp es=>iR k r fun r=>K ((j,.mp es)::r)
  |.lz ty e dp rows=>iR k r fun r=>K ((j,.lz ty e dp rows)::r)
  |.fl fs=>dE.kills k 2 fs fun fs=>iR k r fun r=>K ((j,.fl fs)::r)
  |.loop N e ps a b busy fin=>mS k e fun e=>iR k r fun r=>K ((j,.loop N e ps a b busy fin)::r)
def Uf (h:aQ) (e:Nat) (x:PV) (K:aA (aA PV)->aB R):aB R:=
 match x with
 |.is e' rows=>bif Nat.beq e' e then K rows else none
 |.own k=>hK h k fun ob=>match ob with
  |.lst _ e' _ rows=>bif Nat.beq e' e then K rows else none
  |_=>none
 |.v (.slice none 0 0)=>K []
 |_=>none
def vH (lo hi:Bool) (len:Nat) (a:aA PV) (K:Int->Int->aB R):aB R:=
 match lo,hi,a with
 |false,false,[]=>K 0 len
 |true,false,[.v (.int _ l)]=>K l len
 |false,true,[.v (.int _ h)]=>K 0 h
 |true,true,[.v (.int _ l),.v (.int _ h)]=>K l h
 |_,_,_=>none
def Gl:aA PV->aA (Nat×Nat)->aA PV->(aA PV->aB R)->aB R
 |cells,[],[],K=>K cells
 |cells,(off,n)::ps,x::xs,K=>lE x fun cs=>bif Nat.beq cs.length n then pR cells off cs fun cells=>Gl cells ps xs K else none
 |_,_,_,_=>none
def rK (e:Nat):aA PV->(aA (aA PV)->aB R)->aB R
 |[],K=>K []
 |x::xs,K=>lE x fun cs=>bif Nat.beq cs.length e&&cs.all eO then rK e xs fun r=>K (cs::r)else none
def Ug:PV->aB (Nat×PV)
 |.zs d e rows=>some (d,.is e rows)
 |x=>bif eO x then some (0,x)else none
def xK:aA PV->aB (Nat×aA PV)
 |[]=>some (0,[])
 |x::xs=>match Ug x,xK xs with
  |some (d,y),some (d',ys)=>some (bif Nat.blt d d' then d' else d,y::ys)
  |_,_=>none
def fD (d:Nat) (K:Nat->aB R):aB R:=match d with
 |0=>K 0
 |1=>K 1
 |2=>K 2
 |3=>K 3
 |4=>K 4
 |d=>K d
def xL (e:Nat):aA PV->(Nat->aA (aA PV)->aB R)->aB R
 |[],K=>K 0 []
 |x::xs,K=>lE x fun cs=>match xK cs with
  |some (d,ys)=>bif Nat.beq ys.length e then xL e xs fun a r=>fD (bif Nat.blt d a then a else d) fun m=>K m (ys::r)else none
  |none=>none
def Uh:PV->Bool
 |.agg cs=>cs.all eO
 |x=>eO x
def Pr:Nat->aA Nat->Bool
 |_,[]=>true
 |i,j::js=>bif Nat.beq i j then Pr (i+1) js else false
def Zq (i:Int) (K:Nat->aB R):aB R:=
 match i with
 |.ofNat i=>K i
 |_=>none
def Gm (i:Int):Nat->(Nat->aB R)->aB R
 |0,_=>none
 |m+1,K=>Is (i==(m:Int)) (K m) (Gm i m K)
def dB (k:dW) (xs:aA PV) (h:aQ) (n:Nat) (K:PV->aQ->Nat->aB R):aB R:=
 match k,xs with
 |.mov,[x]=>K x h n
 |.nilc,[x]=>match x with
  |.ref .. |.ip .. |.el .. |.fn .. |.yld .. =>K x h n
  |_=>none
 |.box _ size,[x]=>lE x fun cs=>bif Nat.beq cs.length size then(bif Nat.beq size 0 then none else K (.ref n 0) ((n,.box cs)::h) (n+1))else none
 |.alloc _ zero,[]=>rF (zero.map .v) fun cs=>K (.ref n 0) ((n,.box cs)::h) (n+1)
 |.build zero parts,xs=>rF (zero.map .v) fun cs=>Gl cs parts xs fun cs=>K (.agg cs) h n
 |.buildSl ty e len zero parts,xs=>bif Pr 0 parts&&(Nat.beq zero.length e&& !(fM ty))then(bif Nat.beq parts.length len then bif xs.all Uh then rK e xs fun rows=>bif Nat.beq rows.length len then K (.own n) ((n,.lst ty e false rows)::h) (n+1)else none else xL e xs fun dp rows=>bif Nat.beq rows.length len then K (.own n) ((n,.lz ty e dp rows)::h) (n+1)else none else none)else none
 |.loadS,[p]=>match p with
  |.ref k o=>hK h k fun ob=>match ob with
   |.box cs=>fX o cs fun cs=>match cs with
    |c::_=>K c h n
    |[]=>none
   |_=>none
  |.ip cs=>match cs with
   |c::_=>K c h n
   |[]=>none
  |.el k i o=>hK h k fun ob=>match ob with
   |.lst _ _ _ rows=>bU (xI rows i o) fun c=>K c h n
   |.fl fs=>bif Nat.beq o 0 then(fX i fs fun fs=>match fs with
    |f::_=>K f h n
    |[]=>none)else none
   |_=>none
  |_=>none
 |.loadA m,[p]=>match p with
  |.ref k o=>hK h k fun ob=>match ob with
   |.box cs=>fX o cs fun cs=>nN m cs fun cs=>K (.agg cs) h n
   |_=>none
  |.ip cs=>nN m cs fun cs=>K (.agg cs) h n
  |.el k i o=>hK h k fun ob=>match ob with
   |.lst _ _ _ rows=>bU (rH rows i o m) fun cs=>K (.agg cs) h n
   |_=>none
  |_=>none
 |.store m,[p,x]=>match p with
  |.ref k o=>hK h k fun ob=>match ob with
   |.box cs=>lE x fun ys=>bif Nat.beq ys.length m then pR cs o ys fun cs=>fY h k (.box cs) fun h=>K .undef h n else none
   |_=>none
  |.el k i o=>hK h k fun ob=>match ob with
   |.lst ty e g rows=>lE x fun ys=>bif Nat.beq ys.length m&&ys.all eO then bU (xH rows i o ys) fun rows=>fY h k (.lst ty e g rows) fun h=>K .undef h n else none
   |_=>none
  |_=>none
 |.fad off,[p]=>match p with
  |.ref k o=>K (.ref k (o+off)) h n
  |.ip cs=>fX off cs fun cs=>K (.ip cs) h n
  |.el k i o=>K (.el k i (o+off)) h n
  |_=>none
 |.iad e,[x,i]=>match i with
  |.v (.int _ i)=>match x with
   |.is e' rows=>bif Nat.beq e' e then bU (sX rows i) fun row=>K (.ip row) h n else none
   |.own k=>hK h k fun ob=>match ob with
    |.lst _ e' _ rows=>bif Nat.beq e' e then bU (rG rows.length i) fun i=>K (.el k i 0) h n else none
    |.fl fs=>bif Nat.beq e 1 then Zq i (fun i=>bif Nat.blt i fs.length then K (.el k i 0) h n else none)else none
    |_=>none
   |_=>none
  |_=>none
 |.iadA len esz,[p,i]=>match i with
  |.v (.int _ i)=>match p with
   |.ref k o=>Gm i len fun j=>K (.ref k (o+j*esz)) h n
   |_=>none
  |_=>none
 |.idxStr,[x,i]=>match x,i with
  |.v (.string s),.v (.int _ i)=>bU (nO s i) fun b=>K (.v (.int .u8 b)) h n
  |_,_=>none
 |.idxA len e agg,[x,i]=>match x,i with
  |.agg cs,.v (.int _ i)=>bif agg then bU (nP cs i len e) fun cs=>K (.agg cs) h n else bU (rI cs i len e) fun c=>K c h n
  |_,_=>none
 |.bin op,[x,y]=>jE1 op x y fun v=>K v h n
 |.eqB neg,[x,y]=>match x,y with
  |.v (.bool a),.v (.bool b)=>K (.v (.bool ((a==b)!=neg))) h n
  |_,_=>none
 |.eqA neg ks,[x,y]=>match x,y with
  |.agg as,.agg bs=>Zp ks as bs fun r=>K (.v (.bool (r !=neg))) h n
  |_,_=>none
 |.un op,[x]=>match op,x with
  |.not,.v (.bool b)=>K (.v (.bool !b)) h n
  |.neg,.v (.int k m)=>K (.v (.int k (k.wrap (0-m)))) h n
  |.xor,.v (.int k m)=>K (.v (.int k (k.wrap (BitVec.ofInt k.bits (if k.signed then -1 else k.max)^^^BitVec.ofInt k.bits m).toNat))) h n
  |_,_=>none
 |.convI k,[x]=>match x with
  |.v (.int _ m)=>K (.v (.int k (k.wrap m))) h n
  |_=>none
 |.s2b _,[x]=>match x with
  |.v (.string s)=>K (.is 1 (byteRows s)) h n
  |_=>none
 |.mkfn f m,xs=>match f with
  |.func f=>nN m xs fun a=>fX m xs fun b=>K (.fn f a b) h n
  |_=>none
 |.mkmap,[]=>K (.map n) ((n,.mp [])::h) (n+1)
 |.mksl ty e _ zero,[l,c]=>match l,c with
  |.v (.int _ l),.v (.int _ c)=>bif fM ty then none else rF (zero.map .v) fun z=>bU (nQ l c z) fun rows=>K (.own n) ((n,.lst ty e true rows)::h) (n+1)
  |_,_=>none
 |.slc e lo hi mx,x::bs=>bif mx then none else match x with
  |.is e' rows=>bif Nat.beq e' e then vH lo hi rows.length bs fun l r=>bU (lM rows l r) fun rows=>K (.is e rows) h n else none
  |_=>none
 |.lookup agg ks zero ok,[m,k]=>
  match zero with
  |.v z=>match m with
   |.im es=>bif cY 2 k then(bif ok then bU (mK agg ks (.v z) k es) fun r=>K (.tup [r.1,.v (.bool r.2)]) h n else bU (pT agg ks (.v z) k es) fun r=>K r h n)else none
   |.zm es=>bif cY 2 k then(bif ok then bU (mK agg ks (.v z) k es) fun r=>K (.tup [r.1,.v (.bool r.2)]) h n else bU (pT agg ks (.v z) k es) fun r=>K r h n)else none
   |.map j=>hK h j fun ob=>match ob with
    |.mp es=>bif cY 2 k then(bif ok then bU (mK agg ks (.v z) k es) fun r=>K (.tup [r.1,.v (.bool r.2)]) h n else bU (pT agg ks (.v z) k es) fun r=>K r h n)else none
    |_=>none
   |_=>none
  |_=>none
 |.mapup agg ks,[m,k,x]=>match m with
  |.map j=>hK h j fun ob=>match ob with
   |.mp es=>bif Ka k&&Ka x then bU (xJ agg ks k x es) fun es=>fY h j (.mp es) fun h=>K .undef h n else none
   |_=>none
  |_=>none
 |.len kd,[x]=>match x with
  |.is _ rows=>bif Nat.beq kd 0 then bU (some rows.length) fun m=>K (.v (.int .i64 m)) h n else none
  |.own k=>bif Nat.beq kd 0 then hK h k fun ob=>match ob with
   |.lst _ _ _ rows=>bU (some rows.length) fun m=>K (.v (.int .i64 m)) h n
   |.lz _ _ _ rows=>bU (some rows.length) fun m=>K (.v (.int .i64 m)) h n
   |.fl fs=>K (.v (.int .i64 fs.length)) h n
   |_=>none else none
  |.zs _ _ rows=>bif Nat.beq kd 0 then bU (some rows.length) fun m=>K (.v (.int .i64 m)) h n else none
  |.v (.slice none 0 0)=>bif Nat.beq kd 0 then K (.v (.int .i64 0)) h n else none
  |.v (.string s)=>bif Nat.beq kd 1 then K (.v (.int .i64 s.size)) h n else none
  |_=>none
 |.ext i,[x]=>match x with
  |.tup vs=>fX i vs fun vs=>match vs with
   |v::_=>K v h n
   |[]=>none
  |_=>none
 |_,_=>none
structure NX where
 is:FuncId->Bool
 nw:FuncId->Bool
 run:{R:Type}->FuncId->List PV->aQ->Nat->(PV->aQ->Nat->Option R)->Option R
 yld:{R:Type}->Nat->List PV->aQ->Nat->(PV->aQ->Nat->Option R)->Option R
abbrev rL:=FuncId->aA PV->aB PV
def vI (h:aQ):aA PV->(aA PV->aB R)->aB R
 |[],K=>K []
 |x::xs,K=>Cq h 5 x fun x=>vI h xs fun xs=>K (x::xs)
def uK (C:rL) (f:FuncId) (xs:aA PV) (h:aQ) (K:PV->aB R):aB R:=
 bif xs.all (cY 4)then bU (C f xs) fun v=>fV v K
 else vI h xs fun xs=>bU (C f xs) fun v=>fV v fun v=>bif sZ 4 v then K v else none
def Mp (h:aQ) (es dp:Nat) (x:PV) (K:aA (aA PV)->aB R):aB R:=
 match x with
 |.is e' rows=>bif Nat.beq e' es then K rows else none
 |.own k=>hK h k fun ob=>match ob with
  |.lst _ e' _ rows=>bif Nat.beq e' es then K rows else none
  |.lz _ e' dp' rows=>bif Nat.beq e' es&&Nat.ble dp' dp then K rows else none
  |_=>none
 |.zs d e' rows=>bif Nat.beq e' es&&Nat.ble d (dp+1)then K rows else none
 |.v (.slice none 0 0)=>K []
 |_=>none
def jF1 (e:dY) (h:aQ) (d ty es:Nat) (kill:aA Nat) (s x:PV) (K:dY->aQ->aB R):aB R:=
 match s with
 |.own k=>hK h k fun ob=>match ob with
  |.lst ty' es' g rows=>Uf h es x fun new=>bif Nat.beq es' es&&(Nat.beq ty' ty&& !(fM ty'))then bU (appRows g rows new) fun rows=>
    gL e (d::kill) fun e=>mS k e fun e=>iR k h fun h=>fY h k (.lst ty' es' g rows) fun h=>K ((d,.own k)::e) h
   else none
  |.lz ty' es' dp rows=>Mp h es dp x fun new=>bif Nat.beq es' es&&(Nat.beq ty' ty&& !(fM ty'))then bU (appRows false rows new) fun rows=>
    gL e (d::kill) fun e=>mS k e fun e=>iR k h fun h=>fY h k (.lz ty' es' dp rows) fun h=>K ((d,.own k)::e) h
   else none
  |_=>none
 |_=>none
def nR (f:PV->aA Nat->(aA Nat->aB R)->aB R):aA PV->aA Nat->(aA Nat->aB R)->aB R
 |[],a,K=>K a
 |x::xs,a,K=>f x a fun a=>nR f xs a K
def Mq (f:PV->aA Nat->(aA Nat->aB R)->aB R):dY->aA Nat->(aA Nat->aB R)->aB R
 |[],a,K=>K a
 |(_,x)::xs,a,K=>f x a fun a=>Mq f xs a K
def iU:Nat->PV->aA Nat->(aA Nat->aB R)->aB R
 |0,_,_,_=>none
 |d+1,x,a,K=>match x with
  |.ref k _=>K (k::a)
  |.own k=>K (k::a)
  |.el k _ _=>K (k::a)
  |.map k=>K (k::a)
  |.yld k=>K (k::a)
  |.fn _ p q=>nR (iU d) p a fun a=>nR (iU d) q a K
  |.agg cs=>nR (iU d) cs a K
  |.tup cs=>nR (iU d) cs a K
  |_=>K a
def kB (h:aQ):Nat->aA Nat->aA Nat->(aA Nat->aB R)->aB R
 |0,_,_,_=>none
 |_+1,[],a,K=>K a
 |n+1,k::b,a,K=>bif zL k a then kB h n b a K else hK h k fun ob=>match ob with
  |.box cs=>nR (iU 4) cs b fun b=>kB h n b (k::a) K
  |.fl cs=>nR (iU 4) cs b fun b=>kB h n b (k::a) K
  |.loop _ e _ _ _ _ _=>Mq (iU 4) e b fun b=>kB h n b (k::a) K
  |_=>kB h n b (k::a) K
def Gn:aQ->aA Nat->(aQ->aQ->aB R)->aB R
 |[],_,K=>K [] []
 |(k,o)::r,ns,K=>Gn r ns fun a b=>bif zL k ns then K ((k,o)::a) b else K a ((k,o)::b)
def gE:aQ->Nat->Bool
 |[],_=>false
 |(j,_)::r,k=>bif Nat.beq j k then true else gE r k
def kC (p:Nat->Bool):Nat->PV->Bool
 |0,_=>false
 |d+1,x=>match x with
  |.ref k _|.own k|.el k _ _|.map k|.yld k=>p k
  |.fn _ a b=>a.all (kC p d)&&b.all (kC p d)
  |.agg cs=>cs.all (kC p d)
  |.tup cs=>cs.all (kC p d)
  |_=>true
def Ct (p:Nat->Bool):fP->Bool
 |.box cs=>cs.all (kC p 4)
 |.fl cs=>cs.all (kC p 4)
 |.loop _ e _ _ _ _ _=>e.all fun q=>kC p 4 q.2
 |_=>true
def iA (p:Nat->Bool):aQ->Bool
 |[]=>true
 |(_,o)::r=>Ct p o&&iA p r
def mL:aQ->dY->aQ->(dY->aQ->aB R)->aB R
 |[],e,h,K=>K e h
 |(k,o)::r,e,h,K=>match o with
  |.lst ty .. =>bif fM ty then mL r e h K else mS k e fun e=>iR k h fun h=>mL r e h K
  |.lz .. =>mS k e fun e=>iR k h fun h=>mL r e h K
  |_=>mL r e h K
def xM:aQ->aQ->(aQ->aB R)->aB R
 |[],b,K=>K b
 |(k,o)::r,b,K=>xM r b fun r=>K ((k,o)::r)
def pU:aQ->aA Nat
 |[]=>[]
 |(k,_)::r=>k::pU r
def Ps (hs:aQ) (n:Nat):aQ->Bool
 |[]=>true
 |(k,_)::r=>bif gE hs k||Nat.ble n k then Ps hs n r else false
def Pt (a:aQ):aA Nat->Bool
 |[]=>true
 |k::r=>bif gE a k then Pt a r else false
def Pu (hs:aQ):aQ->Bool
 |[]=>true
 |(k,_)::r=>bif gE hs k then Pu hs r else false
def Yt:aQ->Nat->Nat
 |[],m=>m
 |(k,_)::r,m=>bif Nat.blt k m then Yt r m else Yt r (k+1)
def zM (hs:aQ) (nw:Bool) (n:Nat) (v:PV) (h':aQ) (n':Nat):aB (PV×aQ×Nat):=
 nR (iU 5) [v] (pU hs) fun a=>kB h' 60 a [] fun b=>Gn h' b fun h2 _=>
  bif Pt h2 (pU hs)&&(bif nw then Ps hs n h2 else Pu hs h2)&&(kC (gE h2) 5 v&&iA (gE h2) h2)then some (v,h2,bif nw then n' else 0)else none
def inK (run:aQ->Nat->(PV->aQ->Nat->aB (PV×aQ×Nat))->aB (PV×aQ×Nat)) (nw:Bool) (xs:aA PV) (e:dY) (h:aQ) (n:Nat) (kill:aA Nat) (K:PV->dY->aQ->Nat->aB R):aB R:=
 nR (iU 5) xs [] fun a=>kB h 60 a [] fun c=>Gn h c fun hs b=>
  bif xs.all (kC (gE hs) 5)&&iA (gE hs) hs then
   bU (run hs (bif nw then n else Yt hs 0) (zM hs nw (bif nw then n else Yt hs 0))) fun r=>
    fV r.1 fun v=>xM r.2.1 [] fun h2=>gL e kill fun e=>mL h2 e b fun e b=>xM h2 b fun h=>K v e h (bif nw then r.2.2 else n)
  else none
def Kb:aQ->(aQ->aB R)->aB R
 |[],K=>K []
 |(k,o)::r,K=>match o with
  |.lst ty e g rows=>bif fM ty then none else Kb r fun r=>K ((k,.lst (ty+4294967296) e g rows)::r)
  |.lz .. =>none
  |o=>Kb r fun r=>K ((k,o)::r)
def uL:aQ->aQ->(aQ->aB R)->aB R
 |_,[],K=>K []
 |h,(k,o)::r,K=>hK h k fun a=>match a with
  |.lst .. =>match o with
   |.lst ty e g rows=>bif fM ty&& !(fM (ty-4294967296))then uL h r fun r=>K ((k,.lst (ty-4294967296) e g rows)::r)else none
   |_=>none
  |_=>match o with
   |.lst .. =>none
   |.lz .. =>none
   |o=>uL h r fun r=>K ((k,o)::r)
def jG1 (fx:Bool) (run:aQ->Nat->(PV->aQ->Nat->aB (PV×aQ×Nat))->aB (PV×aQ×Nat)) (nw:Bool) (xs:aA PV) (e:dY) (h:aQ) (n:Nat) (kill:aA Nat) (K:PV->dY->aQ->Nat->aB R):aB R:=
 bif fx then Kb h fun h1=>inK run nw xs e h1 n kill fun v e h2 n=>uL h h2 fun a=>K v e a n
 else inK run nw xs e h n kill K
def Kc (e:dY) (h:aQ) (d es:Nat) (kill:aA Nat) (k:Nat) (hi:Int) (K:dY->aQ->aB R):aB R:=
 hK h k fun ob=>match ob with
 |.lst ty es' _ rows=>bif Nat.beq es' es&& !(fM ty)then bU (oJ rows hi) fun rows=>
   gL e (d::kill) fun e=>mS k e fun e=>iR k h fun h=>fY h k (.lst ty es' true rows) fun h=>K ((d,.own k)::e) h
  else none
 |_=>none
def opK (C:rL) (X:NX) (k:dW) (as:aA PV) (h:aQ) (n:Nat) (K:PV->aQ->Nat->aB R):aB R:=
 match k,as with
 |.callF f,as=>bif X.is f then none else uK C f as h fun v=>K v h n
 |.callV,.fn f first cap::as=>bif X.is f then none else uK C f (first++as++cap) h fun v=>K v h n
 |k,as=>dB k as h n K
def Pv:aA (aB Nat)->aA PV->(aA PV->aB R)->aB R
 |[],[],K=>K []
 |o::os,x::xs,K=>Pv os xs fun xs=>match o with
  |none=>K (x::xs)
  |some e=>match x with
   |.v (.slice none 0 0)=>K (.is e []::xs)
   |_=>none
 |_,_,_=>none
def lN (ty e:Nat) (g:Bool):fP:=bif Nat.ble 4294967296 e then .lz ty (e%4294967296) (e/4294967296) []else .lst ty e g []
def Mr:Bool->fP->aB PV
 |false,.lst ty e _ rows=>bif fM ty then none else some (.zs 1 e rows)
 |false,.lz _ e dp rows=>some (.zs (dp+1) e rows)
 |true,.mp es=>some (.zm es)
 |_,_=>none
def Gp:aQ->Nat->(aQ->aB R)->aB R
 |[],_,K=>K []
 |(j,o)::r,k,K=>bif Nat.beq j k then Gp r k K else Gp r k fun r=>K ((j,o)::r)
def fzK (e:dY) (h:aQ) (d:Nat) (m:Bool) (k:Nat) (j:aB Nat) (K:dY->aQ->aB R):aB R:=
 hK h k fun ob=>match Mr m ob with
 |some x=>mS k e fun e=>iR k h fun h=>fY h k (.lst 0 0 true []) fun h=>match j with
  |none=>gL e [d] fun e=>K ((d,x)::e) h
  |some j=>mU e d fun v=>match v with
   |.agg cs=>pR cs j [x] fun cs=>gL e [d] fun e=>K ((d,.agg cs)::e) h
   |_=>none
 |none=>none
def xN:PV->aB (Bool×Nat)
 |.own k=>some (false,k)
 |.map k=>some (true,k)
 |_=>none
def Gq:dW->Bool
 |.store _|.mapup .. =>true
 |_=>false
def Zr:PV->Bool
 |.fn .. =>true
 |_=>false
def bV:gC->aA Nat->aA Nat
 |.nil,a=>a
 |.op d _ _ _ r,a=>d::bV r a
 |.sto _ _ _ r,a=>bV r a
 |.ifx d _ _ b _ _ r,a=>d::bV b (bV r a)
 |.ifn d _ _ b _ _ r,a=>d::bV b (bV r a)
 |.mkfl d _ _ _ _ r,a=>d::bV r a
 |.lax _ _ r,a=>bV r a
 |.own _ _ _ _ r,a=>bV r a
 |.ownc _ _ _ _ _ r,a=>bV r a
 |.laxc _ _ _ r,a=>bV r a
 |.fz _ _ r,a=>bV r a
 |.laxm _ _ r,a=>bV r a
def cU (C:rL) (X:NX) (dr:Nat):gC->dY->aQ->Nat->(dY->aQ->Nat->aB R)->aB R
 |.nil,e,h,n,K=>K e h n
 |.op d k xs kill bY,e,h,n,K=>nM e xs fun as=>
  match k,as with
  |.append ty es _ _ false,[s,x]=>jF1 e h d ty es kill s x fun e h=>cU C X dr bY e h n K
  |.slc es false true false,[.own k,.v (.int _ hi)]=>Kc e h d es kill k hi fun e h=>cU C X dr bY e h n K
  |.callF f,as=>bif X.is f then jG1 (zL 4294967296 kill) (X.run f as) (X.nw f) as e h n (d::kill) fun v e h n=>cU C X dr bY ((d,v)::e) h n K
   else uK C f as h fun v=>gL e (d::kill) fun e=>cU C X dr bY ((d,v)::e) h n K
  |.callV,.yld k::as=>bif Nat.beq dr 3 then none else inK (X.yld k as) false (.yld k::as) e h n (d::kill) fun v e h n=>cU C X dr bY ((d,v)::e) h n K
  |.callV,.fn f first cap::as=>bif X.is f then bif Nat.beq dr 3 then none else inK (X.run f (first++as++cap)) (X.nw f) (first++as++cap) e h n (d::kill) fun v e h n=>cU C X dr bY ((d,v)::e) h n K
   else uK C f (first++as++cap) h fun v=>gL e (d::kill) fun e=>cU C X dr bY ((d,v)::e) h n K
  |k,as=>opK C X k as h n fun v h n=>gL e (d::kill) fun e=>cU C X dr bY ((d,v)::e) h n K
 |.sto k xs kill bY,e,h,n,K=>nM e xs fun as=>dB k as h n fun _ h n=>gL e kill fun e=>cU C X dr bY e h n K
 |.ifx d c w body x kill bY,e,h,n,K=>mU e c fun a=>match a with
  |.v (.bool b)=>
   bU (bif w then Is b (opsB C X body e h n x) (some false)else Is b (some true) (opsB C X body e h n x))
    fun y=>gL e (d::bV body kill) fun e=>cU C X dr bY ((d,.v (.bool y))::e) h n K
  |_=>none
 |.ifn d c w body x kill bY,e,h,n,K=>mU e c fun a=>match a with
  |.v (.bool b)=>
   bif w then Is b (cU C X dr body e h n fun e h n=>nM e [x] fun vs=>match vs with
     |[y]=>gL e (d::bV body kill) fun e=>cU C X dr bY ((d,y)::e) h n K
     |_=>none) (gL e (d::bV body kill) fun e=>cU C X dr bY ((d,.v (.bool false))::e) h n K)
   else Is b (gL e (d::bV body kill) fun e=>cU C X dr bY ((d,.v (.bool true))::e) h n K) (cU C X dr body e h n fun e h n=>nM e [x] fun vs=>match vs with
     |[y]=>gL e (d::bV body kill) fun e=>cU C X dr bY ((d,y)::e) h n K
     |_=>none)
  |_=>none
 |.mkfl d ty zero xs kill bY,e,h,n,K=>nM e xs fun as=>bif Nat.beq zero.length 1&&as.all Zr then gL e (d::kill) fun e=>cU C X dr bY ((d,.own n)::e) ((n,.fl as)::h) (n+1) K else none
 |.lax d es bY,e,h,n,K=>mU e d fun v=>match v,es with
  |.v (.slice none 0 0),[some s]=>gL e [d] fun e=>cU C X dr bY ((d,.is s [])::e) h n K
  |.agg cs,es=>Pv es cs fun cs=>gL e [d] fun e=>cU C X dr bY ((d,.agg cs)::e) h n K
  |_,_=>none
 |.own d ty s g bY,e,h,n,K=>mU e d fun v=>match v with
  |.v (.slice none 0 0)=>gL e [d] fun e=>cU C X dr bY ((d,.own n)::e) ((n,lN ty s g)::h) (n+1) K
  |_=>none
 |.fz d j bY,e,h,n,K=>mU e d fun v=>match j with
  |none=>match xN v with
   |some (m,k)=>fzK e h d m k none fun e h=>cU C X dr bY e h n K
   |none=>none
  |some j=>match v with
   |.agg cs=>fX j cs fun cs'=>match cs' with
    |c::_=>match xN c with
     |some (m,k)=>fzK e h d m k (some j) fun e h=>cU C X dr bY e h n K
     |none=>none
    |[]=>none
   |_=>none
 |.laxm d j bY,e,h,n,K=>mU e d fun v=>match j,v with
  |none,.v (.map none)=>gL e [d] fun e=>cU C X dr bY ((d,.zm [])::e) h n K
  |some j,.ref k _=>hK h k fun ob=>match ob with
   |.box cs=>fX j cs fun cs'=>match cs' with
    |.v (.map none)::_=>pR cs j [.zm []] fun cs=>fY h k (.box cs) fun h=>cU C X dr bY e h n K
    |_=>none
   |_=>none
  |_,_=>none
 |.laxc d j s bY,e,h,n,K=>mU e d fun v=>match v with
  |.ref k _=>hK h k fun ob=>match ob with
   |.box cs=>fX j cs fun cs'=>match cs' with
    |.v (.slice none 0 0)::_=>pR cs j [.is s []] fun cs=>fY h k (.box cs) fun h=>cU C X dr bY e h n K
    |_=>none
   |_=>none
  |_=>none
 |.ownc d j ty s g bY,e,h,n,K=>mU e d fun v=>match v with
  |.ref k _=>hK h k fun ob=>match ob with
   |.box cs=>fX j cs fun cs'=>match cs' with
    |.v (.slice none 0 0)::_=>pR cs j [.own n] fun cs=>fY h k (.box cs) fun h=>cU C X dr bY e ((n,lN ty s g)::h) (n+1) K
    |_=>none
   |_=>none
  |_=>none
 where
 opsB (C:rL) (X:NX):gC->dY->aQ->Nat->PX->aB Bool
 |.nil,e,_,_,x=>nM e [x] fun vs=>match vs with
  |[.v (.bool b)]=>some b
  |_=>none
 |.op d k xs kill bY,e,h,n,x=>nM e xs fun as=>
  bif Gq k then none else opK C X k as h n fun v h n=>gL e (d::kill) fun e=>opsB C X bY ((d,v)::e) h n x
 |.ifx d c w body x' kill bY,e,h,n,x=>mU e c fun a=>match a with
  |.v (.bool b)=>
   bU (bif w then Is b (opsB C X body e h n x') (some false)else Is b (some true) (opsB C X body e h n x'))
    fun y=>gL e (d::bV body kill) fun e=>opsB C X bY ((d,.v (.bool y))::e) h n x
  |_=>none
 |_,_,_,_,_=>none
def mT (n:Nat):Nat->PV->Bool
 |0,_=>false
 |d+1,x=>match x with
  |.ref k _|.own k|.el k _ _|.map k|.yld k=>Nat.blt k n
  |.fn _ a b=>a.all (mT n d)&&b.all (mT n d)
  |.agg cs=>cs.all (mT n d)
  |.tup cs=>cs.all (mT n d)
  |_=>true
def Ms:dY->Nat->(PV->aB R)->aB R->aB R
 |[],_,_,D=>D
 |(j,v)::r,i,K,D=>bif Nat.beq j i then K v else Ms r i K D
def Gr:dY->aA Nat->Nat->(dY->aB R)->aB R
 |_,[],_,K=>K []
 |e,i::is,n,K=>Ms e i (fun v=>bif mT n 4 v then Gr e is n fun r=>K ((i,v)::r)else none) (Gr e is n K)
def rM (n:Nat):fP->Bool
 |.box cs=>cs.all (mT n 4)
 |.fl cs=>cs.all (mT n 4)
 |.loop _ e _ _ _ _ _=>e.all fun q=>mT n 4 q.2
 |_=>true
def Mt:aQ->aQ->Nat->(aQ->aB R)->aB R
 |[],_,_,K=>K []
 |(k,_)::r,h,n,K=>hK h k fun o=>bif rM n o then Mt r h n fun r=>K ((k,o)::r)else none
def aR {S E:Type} (body:S->aB (S⊕E)):Nat->S->aB E
 |0,_=>none
 |n+1,s=>(body s).bind fun r=>match r with
  |.inl s=>aR body n s
  |.inr e=>some e
def bC:Nat:=18446744073709551616
structure Gs where
 e:dY
 h:aQ
def xO (body:dY->aQ->(Ex->dY->aQ->aB R)->aB R) (a:dY->aQ->(Gs->aB R)->aB R):Nat->Gs->(Ex->Gs->aB R)->aB R
 |0,_,_=>none
 |m+1,s,K=>body s.e s.h fun x e h=>a e h fun s=>match x with
  |.normal=>xO body a m s K
  |.exit i=>K (.exit i) s
  |.ret=>K .ret s
def Mu:dY->aA Nat->(dY->aB R)->aB R
 |_,[],K=>K []
 |e,i::is,K=>mU e i fun v=>Mu e is fun r=>K ((i,v)::r)
def kD (keep:aA Nat) (h0:aQ) (n0:Nat) (e:dY) (h:aQ) (K:Gs->aB R):aB R:=
 Gr e keep n0 fun e=>Mt h0 h n0 fun h=>K ⟨e,h⟩
def lk (x:Ex) (a b:aA Nat):aA Nat:=match x with
 |.normal=>a
 |_=>b
abbrev dC (X:NX) (f:FuncId) (xs:aA PV) (hs:aQ) (m:Nat) (nw:Bool):aB (PV×aQ×Nat):=X.run f xs hs m (zM hs nw m)
abbrev tA (X:NX) (k:Nat) (xs:aA PV) (hs:aQ) (m:Nat):aB (PV×aQ×Nat):=X.yld k xs hs m (zM hs false m)
def dQ:dY->Nat->aB PV
 |[],_=>none
 |(j,v)::r,i=>if j=i then some v else dQ r i
def aL:aQ->Nat->aB fP
 |[],_=>none
 |(j,v)::r,i=>if j=i then some v else aL r i
def rN:PV->aB Nat
 |.ref k _|.own k|.el k _ _|.map k=>some k
 |_=>none
def Ui:PV->Bool
 |.ip _|.v _|.is _ _|.im _=>true
 |_=>false
def Kd (h:aQ) (x y:PV):Bool:=Ui x||Ui y||match rN x,rN y with
 |some k,some k'=> !Nat.beq k k'&&(aL h k).isSome&&(aL h k').isSome
 |_,_=>false
def exB (e:dY) (h:aQ) (ex:aA (Nat×Nat×Nat×Nat)):Bool:=ex.all fun p=>match dQ e p.2.2.1,dQ e p.2.2.2 with
 |some x,some y=>Kd h x y
 |_,_=>false
def eL (C:rL) (X:NX) {R:Type}:PC->dY->aQ->Nat->(Ex->dY->aQ->Nat->aB R)->aB R
 |.skip,e,h,n,K=>K .normal e h n
 |.reg ops,e,h,n,K=>cU C X 0 ops e h n (K .normal)
 |.regD dr ops _,e,h,n,K=>cU C X dr ops e h n (K .normal)
 |.dead _,_,_,_,_=>none
 |.regX dr ops _ ex,e,h,n,K=>cU C X dr ops e h n fun e h n=>bif exB e h ex then K .normal e h n else none
 |.seq a b,e,h,n,K=>eL C X a e h n (fun x e h n=>match x with|.normal=>eL C X b e h n K|.exit i=>K (.exit i) e h n|.ret=>K .ret e h n)
 |.cond c a b,e,h,n,K=>nM e [c] fun vs=>match vs with
  |[.v (.bool t)]=>Is t (eL C X a e h n K) (eL C X b e h n K)
  |_=>none
 |.condJ keep c a b,e,h,n,K=>nM e [c] fun vs=>match vs with
  |[.v (.bool t)]=>bU (Is t (eL C X a e h n fun x e' h' _=>kD keep h n e' h' fun s=>some (x,s)) (eL C X b e h n fun x e' h' _=>kD keep h n e' h' fun s=>some (x,s)))
    fun r=>K r.1 r.2.e r.2.h n
  |_=>none
 |.block id c,e,h,n,K=>eL C X c e h n (fun x e h n=>match x with|.exit i=>bif Nat.beq i id then K .normal e h n else K (.exit i) e h n|.normal=>K .normal e h n|.ret=>K .ret e h n)
 |.loop keep kx c,e,h,n,K=>kD keep h n e h fun s0=>
   bU (aR (fun s:Gs=>eL C X c s.e s.h n fun x e' h' _=>kD (lk x keep kx) h n e' h' fun s'=>some (match x with|.normal=>.inl s'|x=>.inr (x,s'))) bC s0)
    fun r=>K r.1 r.2.e r.2.h n
 |.condL c a b,e,h,n,K=>nM e [c] fun vs=>match vs with
  |[.v (.bool t)]=>match t with
   |true=>eL C X a e h n K
   |false=>eL C X b e h n K
  |_=>none
 |.loopU m keep c,e,h,n,K=>kD keep h n e h fun s0=>
   xO (fun e h K=>eL C X c e h n fun x e h _=>K x e h) (fun e' h' K=>kD keep h n e' h' K) m s0 fun x s=>K x s.e s.h n
 |.rangeF N keep f ps a b,e,h,n,K=>nM e [f] fun vs=>match vs with
  |[.fn g first cap]=>bif X.is g then Mu e keep fun d=>
    inK (X.run g (first++[.yld n]++cap)) false (first++[.yld n]++cap) e ((n,.loop N d ps a b false none)::h) (n+1) [] fun _ e h m=>
     hK h n fun ob=>match ob with
     |.loop _ _ _ _ _ false fin=>Gp h n fun h=>match fin with
      |none=>K .normal e h m
      |some (.exit i)=>K (.exit i) e h m
      |some .ret=>K .ret e h m
      |some .normal=>none
     |_=>none
   else none
  |_=>none
 |.exit id,e,h,n,K=>K (.exit id) e h n
 |.ret,e,h,n,K=>K .ret e h n
end
end Go.P
namespace Go.P
open Go.Sim (AV AO Hp eY upd St IC IX Ex dW CK)
def oN1:PV->AV
 |.v x=>.v x
 |_=>.tup []
def eV:PV->AV
 |.v x=>.v x
 |.is _ []=>.v (.slice none 0 0)
 |.fn f [] []=>.fn (.func f) [] []
 |.agg cs=>.agg (cs.map oN1)
 |_=>.tup []
def isV:PV->Bool
 |.v _=>true
 |_=>false
def okC:PV->Bool
 |.v _=>true
 |.is _ []=>true
 |.fn _ [] []=>true
 |.agg cs=>cs.all isV
 |_=>false
def eX:PX->IX
 |.t i=>.t i
 |.c x=>.c (eV x)
def oL (g:aB (Nat×Bool)):gC->aA Sim.Op1
 |.nil=>[]
 |.op d k xs _ r=>⟨some d,k,xs.map eX,g⟩::oL g r
 |.sto k xs _ r=>⟨none,k,xs.map eX,g⟩::oL g r
 |.ifx d c w b x _ r=>oL (some (c,w)) b++⟨some d,.pick,if w then[.t c,eX x,.c (.v (.bool false))]else[.t c,.c (.v (.bool true)),eX x],g⟩::oL g r
 |.ifn d c w b x _ r=>oL (some (c,w)) b++⟨some d,.pick,if w then[.t c,eX x,.c (.v (.bool false))]else[.t c,.c (.v (.bool true)),eX x],g⟩::oL g r
 |.mkfl d ty zero xs _ r=>⟨some d,.buildSl ty 1 xs.length zero (List.range xs.length),xs.map eX,g⟩::oL g r
 |.lax _ _ r=>oL g r
 |.own _ _ _ _ r=>oL g r
 |.ownc _ _ _ _ _ r=>oL g r
 |.laxc _ _ _ r=>oL g r
 |.fz _ _ r=>oL g r
 |.laxm _ _ r=>oL g r
def uM:gC->Bool
 |.nil=>true
 |.lax _ _ r=>uM r
 |.own _ _ _ _ r=>uM r
 |.ownc _ _ _ _ _ r=>uM r
 |.laxc _ _ _ r=>uM r
 |.fz _ _ r=>uM r
 |.laxm _ _ r=>uM r
 |_=>false
def oO1:gC->Bool
 |.nil=>true
 |_=>false
def iG:PC->IC
 |.skip=>.skip
 |.reg ops=>.reg (oL none ops)
 |.regD _ ops before=>.regD (oL none ops) before
 |.dead c=>c
 |.regX _ ops before _=>.regD (oL none ops) before
 |.seq a b=>match a with
  |.reg ops=>if uM ops&& !oO1 ops then iG b else .seq (.reg (oL none ops)) (iG b)
  |a=>.seq (iG a) (iG b)
 |.cond c a b=>.cond (eX c) (iG a) (iG b)
 |.condJ _ c a b=>.cond (eX c) (iG a) (iG b)
 |.condL c a b=>.cond (eX c) (iG a) (iG b)
 |.block id c=>.block id (iG c)
 |.loop _ _ c=>.loop (iG c)
 |.loopU _ _ c=>.loop (iG c)
 |.rangeF _ _ f ps a b=>.rangeF (eX f) ps (iG a) (iG b)
 |.exit id=>.exit id
 |.ret=>.ret
end Go.P
namespace Go.P
open Go.Sim (AV AO Hp eY upd St IC IX Ex dW CK Wf)
inductive RC:Bool->PV->AV->Prop
 |v {p:Bool} (x:Value):RC p (.v x) (.v x)
 |is {p:Bool} {e:Nat} {rows:List (List PV)} {rows':List (List AV)} (hl:rows.length=rows'.length)
   (hr:∀(i:Nat) (r:List PV) (r':List AV),rows[i]? =some r->rows'[i]? =some r'->r.length=r'.length)
   (hc:∀(i:Nat) (r:List PV) (r':List AV) (j:Nat) (x:PV) (y:AV),rows[i]? =some r->rows'[i]? =some r'->r[j]? =some x->r'[j]? =some y->RC true x y):RC p (.is e rows) (.is e rows')
 |isn {p:Bool} {e:Nat}:RC p (.is e []) (.v (.slice none 0 0))
 |ip {p:Bool} {cs:List PV} {cs':List AV} (hl:cs.length=cs'.length) (hc:∀(j:Nat) (x:PV) (y:AV),cs[j]? =some x->cs'[j]? =some y->RC false x y):RC p (.ip cs) (.ip cs')
 |im {es:List (PV×PV)} {es':List (AV×AV)} (hl:es.length=es'.length)
   (hk:∀(j:Nat) (x:PV×PV) (y:AV×AV),es[j]? =some x->es'[j]? =some y->RC false x.1 y.1)
   (hv:∀(j:Nat) (x:PV×PV) (y:AV×AV),es[j]? =some x->es'[j]? =some y->RC false x.2 y.2):RC false (.im es) (.im es')
 |fn {f:FuncId} {a b:List PV} {a' b':List AV} (h1:a.length=a'.length) (h2:b.length=b'.length)
   (v1:∀(j:Nat) (x:PV) (y:AV),a[j]? =some x->a'[j]? =some y->RC false x y) (v2:∀(j:Nat) (x:PV) (y:AV),b[j]? =some x->b'[j]? =some y->RC false x y):RC false (.fn f a b) (.fn (.func f) a' b')
 |agg {cs:List PV} {cs':List AV} (hl:cs.length=cs'.length) (hc:∀(j:Nat) (x:PV) (y:AV),cs[j]? =some x->cs'[j]? =some y->RC false x y):RC false (.agg cs) (.agg cs')
 |tup {cs:List PV} {cs':List AV} (hl:cs.length=cs'.length) (hc:∀(j:Nat) (x:PV) (y:AV),cs[j]? =some x->cs'[j]? =some y->RC false x y):RC false (.tup cs) (.tup cs')
theorem RC.weak {p:Bool} {x:PV} {y:AV} (h:RC p x y):RC false x y:=by
 cases h with
 |v x=>exact .v x
 |is hl hr hc=>exact .is hl hr hc
 |isn=>exact .isn
 |ip hl hc=>exact .ip hl hc
 |im a b c=>exact .im a b c
 |fn a b c d=>exact .fn a b c d
 |agg a b=>exact .agg a b
 |tup a b=>exact .tup a b
theorem RC.plain {x:PV} {y:AV} (h:RC false x y) (hp:eO x=true):RC true x y:=by
 cases h with
 |v x=>exact .v x
 |is hl hr hc=>exact .is hl hr hc
 |isn=>exact .isn
 |ip hl hc=>exact .ip hl hc
 |_=>simp[eO]at hp
def LR (R:PV->AV->Prop) (xs:aA PV) (ys:aA AV):Prop:=xs.length=ys.length/\∀(j:Nat) (x:PV) (y:AV),xs[j]? =some x->ys[j]? =some y->R x y
section
variable {R:PV->AV->Prop}
theorem LR.nil:LR R [] []:=⟨rfl,fun j x y h=>by simp at h⟩
theorem LR.cons {x:PV} {y:AV} {xs:aA PV} {ys:aA AV} (h:R x y) (d:LR R xs ys):LR R (x::xs) (y::ys):=
 ⟨by simp[d.1],fun j a b c hb=>by
  cases j with
  |zero=>simp at c hb;subst c hb;exact h
  |succ j=>simp at c hb;exact d.2 j a b c hb⟩
theorem LR.head {x:PV} {y:AV} {xs:aA PV} {ys:aA AV} (h:LR R (x::xs) (y::ys)):R x y:=h.2 0 x y rfl rfl
theorem LR.tail {x:PV} {y:AV} {xs:aA PV} {ys:aA AV} (h:LR R (x::xs) (y::ys)):LR R xs ys:=
 ⟨by simpa using h.1,fun j a b c hb=>h.2 (j+1) a b (by simpa using c) (by simpa using hb)⟩
theorem LR.inv_nil {ys:aA AV} (h:LR R [] ys):ys=[]:=by
 have:=h.1;cases ys with
 |nil=>rfl
 |cons a as=>simp at this
theorem LR.inv_cons {x:PV} {xs:aA PV} {ys:aA AV} (h:LR R (x::xs) ys):∃y b,ys=y::b/\R x y/\LR R xs b:=by
 cases ys with
 |nil=>have:=h.1;simp at this
 |cons a as=>exact⟨a,as,rfl,h.head,h.tail⟩
theorem LR.append {xs xs':aA PV} {ys b:aA AV} (h:LR R xs ys) (h':LR R xs' b):LR R (xs++xs') (ys++b):=by
 induction xs generalizing ys with
 |nil=>rw[h.inv_nil];exact h'
 |cons a as ih=>
  obtain⟨y,c,rfl,h1,h2⟩:=h.inv_cons;exact .cons h1 (ih h2)
theorem LR.take {xs:aA PV} {ys:aA AV} (h:LR R xs ys) (n:Nat):LR R (xs.take n) (ys.take n):=
 ⟨by simp[h.1],fun j x y a hy=>by
  rw[rA2]at a hy
  split at a
  rename_i b
  rw[pW2 b]at hy
  exact h.2 j x y a hy
  cases a⟩
theorem LR.drop {xs:aA PV} {ys:aA AV} (h:LR R xs ys) (n:Nat):LR R (xs.drop n) (ys.drop n):=
 ⟨by simp[h.1],fun j x y a hy=>by
  rw[rI2]at a hy
  exact h.2 _ x y a hy⟩
theorem LR.get {xs:aA PV} {ys:aA AV} (h:LR R xs ys) {j:Nat} {x:PV} (b:xs[j]? =some x):∃y,ys[j]? =some y/\R x y:=by
 have a:j<ys.length:=by rw[<-h.1];exact(pO2.1 b).1
 exact⟨ys[j],by simp[a],h.2 j x _ b (by simp[a])⟩
theorem LR.mono {R':PV->AV->Prop} {xs:aA PV} {ys:aA AV} (h:LR R xs ys) (c:∀x y,R x y->R' x y):LR R' xs ys:=⟨h.1,fun j x y a b=>c x y (h.2 j x y a b)⟩
theorem LR.set {xs:aA PV} {ys:aA AV} (h:LR R xs ys) {x:PV} {y:AV} (d:R x y) (n:Nat):LR R (xs.set n x) (ys.set n y):=
 ⟨by simp[h.1],fun j a b c hb=>by
  rw[qK2]at c hb
  split at c
  rename_i e;subst e
  rw[pW2 rfl]at hb
  split at c
  split at hb
  cases c;cases hb;exact d
  cases hb
  cases c
  rename_i e
  rw[pT2 e]at hb
  exact h.2 j a b c hb⟩
theorem LR.setL {xs xs':aA PV} {ys b:aA AV} (h:LR R xs ys) (h':LR R xs' b) (o:Nat):LR R (Sim.setL xs o xs') (Sim.setL ys o b):=by
 induction xs' generalizing xs ys b o with
 |nil=>rw[h'.inv_nil];exact h
 |cons a as ih=>
  obtain⟨y,c,rfl,h1,h2⟩:=h'.inv_cons;exact ih (h.set h1 o) h2 (o+1)
end
def RR (rows:aA (aA PV)) (rows':aA (aA AV)):Prop:=
 rows.length=rows'.length/\∀(i:Nat) (r:aA PV) (r':aA AV),rows[i]? =some r->rows'[i]? =some r'->LR (RC true) r r'
theorem RR.is {p:Bool} {e:Nat} {rows:aA (aA PV)} {rows':aA (aA AV)} (h:RR rows rows'):RC p (.is e rows) (.is e rows'):=
 .is h.1 (fun i r r' a b=>(h.2 i r r' a b).1) (fun i r r' j x y a b c d=>(h.2 i r r' a b).2 j x y c d)
theorem RR.of_is {rows:aA (aA PV)} {rows':aA (aA AV)} (hl:rows.length=rows'.length)
   (hr:∀(i:Nat) (r:aA PV) (r':aA AV),rows[i]? =some r->rows'[i]? =some r'->r.length=r'.length)
   (hc:∀(i:Nat) (r:aA PV) (r':aA AV) (j:Nat) (x:PV) (y:AV),rows[i]? =some r->rows'[i]? =some r'->r[j]? =some x->r'[j]? =some y->RC true x y):RR rows rows':=
 ⟨hl,fun i r r' a b=>⟨hr i r r' a b,fun j x y c d=>hc i r r' j x y a b c d⟩⟩
theorem RR.nil:RR [] []:=⟨rfl,fun i r r' h=>by simp at h⟩
theorem RR.cons {r:aA PV} {r':aA AV} {rows:aA (aA PV)} {rows':aA (aA AV)} (h:LR (RC true) r r') (d:RR rows rows'):RR (r::rows) (r'::rows'):=
 ⟨by simp[d.1],fun j a b c hb=>by
  cases j with
  |zero=>simp at c hb;subst c hb;exact h
  |succ j=>simp at c hb;exact d.2 j a b c hb⟩
theorem RR.get {rows:aA (aA PV)} {rows':aA (aA AV)} (h:RR rows rows') {i:Nat} {r:aA PV} (hr:rows[i]? =some r):∃r',rows'[i]? =some r'/\LR (RC true) r r':=by
 have a:i<rows'.length:=by rw[<-h.1];exact(pO2.1 hr).1
 exact⟨rows'[i],by simp[a],h.2 i r _ hr (by simp[a])⟩
theorem RR.append {a b:aA (aA PV)} {a' b':aA (aA AV)} (h:RR a a') (k:RR b b'):RR (a++b) (a'++b'):=
 ⟨by simp[h.1,k.1],fun i r r' h1 h2=>by
  rw[rN2]at h1 h2
  rw[<-h.1]at h2
  split at h1
  rename_i hi;rw[pW2 hi]at h2;exact h.2 i r r' h1 h2
  rename_i hi;rw[pT2 hi]at h2;exact k.2 _ r r' h1 h2⟩
theorem RR.take {a:aA (aA PV)} {a':aA (aA AV)} (h:RR a a') (n:Nat):RR (a.take n) (a'.take n):=
 ⟨by simp[h.1],fun j x y b hy=>by
  rw[rA2]at b hy
  split at b
  rename_i c;rw[pW2 c]at hy;exact h.2 j x y b hy
  cases b⟩
theorem RR.drop {a:aA (aA PV)} {a':aA (aA AV)} (h:RR a a') (n:Nat):RR (a.drop n) (a'.drop n):=
 ⟨by simp[h.1],fun j x y b hy=>by
  rw[rI2]at b hy
  exact h.2 _ x y b hy⟩
theorem RR.set {a:aA (aA PV)} {a':aA (aA AV)} (h:RR a a') {x:aA PV} {y:aA AV} (c:LR (RC true) x y) (n:Nat):RR (a.set n x) (a'.set n y):=
 ⟨by simp[h.1],fun j p q b hb=>by
  rw[qK2]at b hb
  split at b
  rename_i e;subst e
  rw[pW2 rfl]at hb
  split at b
  split at hb
  cases b;cases hb;exact c
  cases hb
  cases b
  rename_i e
  rw[pT2 e]at hb
  exact h.2 j p q b hb⟩
theorem RR.replicate {r:aA PV} {r':aA AV} (h:LR (RC true) r r') (n:Nat):RR (List.replicate n r) (List.replicate n r'):=
 ⟨by simp,fun i x y a hy=>by
  simp only[sT2]at a hy
  split at a
  grind
  cases a⟩
def ER (es:aA (PV×PV)) (es':aA (AV×AV)):Prop:=
 es.length=es'.length/\∀(j:Nat) (x:PV×PV) (y:AV×AV),es[j]? =some x->es'[j]? =some y->RC false x.1 y.1/\RC false x.2 y.2
theorem ER.im {es:aA (PV×PV)} {es':aA (AV×AV)} (h:ER es es'):RC false (.im es) (.im es'):=.im h.1 (fun j x y a b=>(h.2 j x y a b).1) (fun j x y a b=>(h.2 j x y a b).2)
def RK (x:PV) (y:AV):Prop:=RC true x y\/∃cs cs',x=.agg cs/\y=.agg cs'/\LR (RC true) cs cs'
theorem RK.rc {x:PV} {y:AV} (h:RK x y):RC false x y:=by
 rcases h with h|⟨cs,cs',rfl,rfl,h⟩
 exact h.weak;exact .agg h.1 fun j x y a b=>(h.2 j x y a b).weak
def EM (es:aA (PV×PV)) (es':aA (AV×AV)):Prop:=
 es.length=es'.length/\∀(j:Nat) (x:PV×PV) (y:AV×AV),es[j]? =some x->es'[j]? =some y->RK x.1 y.1/\RK x.2 y.2
theorem EM.er {es:aA (PV×PV)} {es':aA (AV×AV)} (h:EM es es'):ER es es':=⟨h.1,fun j x y a b=>⟨(h.2 j x y a b).1.rc,(h.2 j x y a b).2.rc⟩⟩
inductive Pl where
 |nil
 |atp (id ver e len:Nat)
structure Cx where
 f:Nat->Option Pl
 z:Nat->Option AO
instance:CoeFun Cx fun _=>Nat->Option Pl:=⟨Cx.f⟩
def Cx.le (C C':Cx):Prop:=(∀k pl,C k=some pl->C' k=some pl)/\∀id o,C.z id=some o->C'.z id=some o
theorem Cx.le.refl (C:Cx):C.le C:=⟨fun _ _ h=>h,fun _ _ h=>h⟩
theorem Cx.le.trans {A B C:Cx} (h:A.le B) (k:B.le C):A.le C:=⟨fun a b c=>k.1 a b (h.1 a b c),fun a b c=>k.2 a b (h.2 a b c)⟩
def RZ (z:Nat->aB AO):Nat->PV->AV->Prop
 |0,x,y=>RC true x y
 |d+1,x,y=>RC true x y\/∃e rows id ver ty els,x=.is e rows/\y=.sl e id ver 0 rows.length none/\z id=some (.arr false ty e ver els)/\rows.length<=els.length/\
   ∀(i:Nat) (r:aA PV) (r':aA AV),rows[i]? =some r->els[i]? =some r'->LR (RZ z d) r r'
theorem RZ.of {z:Nat->aB AO} {d:Nat} {x:PV} {y:AV} (h:RC true x y):RZ z d x y:=by
 cases d with
 |zero=>exact h
 |succ d=>exact .inl h
theorem RZ.up1 {z:Nat->aB AO}:∀{d:Nat} {x:PV} {y:AV},RZ z d x y->RZ z (d+1) x y
 |0,_,_,h=>.inl h
 |d+1,x,y,h=>by
  rcases h with h|⟨e,rows,id,ver,ty,els,h1,h2,h3,h4,h5⟩
  exact .inl h
  exact .inr ⟨e,rows,id,ver,ty,els,h1,h2,h3,h4,fun i r r' a b=>(h5 i r r' a b).mono fun x y h=>RZ.up1 h⟩
theorem RZ.up {z:Nat->aB AO} {d a:Nat} (hd:d<=a) {x:PV} {y:AV} (h:RZ z d x y):RZ z a x y:=by
 induction hd with
 |refl=>exact h
 |step _ ih=>exact ih.up1
theorem RZ.mono {z f:Nat->aB AO} (c:∀id o,z id=some o->f id=some o):∀{d:Nat} {x:PV} {y:AV},RZ z d x y->RZ f d x y
 |0,_,_,h=>h
 |d+1,x,y,h=>by
  rcases h with h|⟨e,rows,id,ver,ty,els,h1,h2,h3,h4,h5⟩
  exact .inl h
  exact .inr ⟨e,rows,id,ver,ty,els,h1,h2,c _ _ h3,h4,fun i r r' a b=>(h5 i r r' a b).mono fun x y h=>RZ.mono c h⟩
def Ar (z:Nat->aB AO) (d:Nat) (rows:aA (aA PV)) (rows':aA (aA AV)):Prop:=
 rows.length=rows'.length/\∀(i:Nat) (r:aA PV) (r':aA AV),rows[i]? =some r->rows'[i]? =some r'->LR (RZ z d) r r'
theorem RR.z {z:Nat->aB AO} {d:Nat} {rows:aA (aA PV)} {rows':aA (aA AV)} (h:RR rows rows'):Ar z d rows rows':=⟨h.1,fun i r r' a b=>(h.2 i r r' a b).mono fun _ _ h=>RZ.of h⟩
theorem Ar.mono {z c:Nat->aB AO} (e:∀id o,z id=some o->c id=some o) {d:Nat} {rows:aA (aA PV)} {rows':aA (aA AV)} (h:Ar z d rows rows'):Ar c d rows rows':=⟨h.1,fun i r r' a b=>(h.2 i r r' a b).mono fun _ _ h=>RZ.mono e h⟩
theorem Ar.up {z:Nat->aB AO} {d c:Nat} (hd:d<=c) {rows:aA (aA PV)} {rows':aA (aA AV)} (h:Ar z d rows rows'):Ar z c rows rows':=⟨h.1,fun i r r' a b=>(h.2 i r r' a b).mono fun _ _ h=>RZ.up hd h⟩
theorem Ar.nil {z:Nat->aB AO} {d:Nat}:Ar z d [] []:=⟨rfl,fun i r r' h=>by simp at h⟩
theorem Ar.append {z:Nat->aB AO} {d:Nat} {a b:aA (aA PV)} {a' b':aA (aA AV)} (h:Ar z d a a') (k:Ar z d b b'):Ar z d (a++b) (a'++b'):=
 ⟨by simp[h.1,k.1],fun i r r' h1 h2=>by
  rw[rN2]at h1 h2
  rw[<-h.1]at h2
  split at h1
  rename_i hi;rw[pW2 hi]at h2;exact h.2 i r r' h1 h2
  rename_i hi;rw[pT2 hi]at h2;exact k.2 _ r r' h1 h2⟩
inductive RV (C:Cx):PV->AV->Prop
 |cl {x:PV} {y:AV} (h:RC false x y):RV C x y
 |undef {y:AV}:RV C .undef y
 |ref {k o id ver e len:Nat} (h:C k=some (.atp id ver e len)):RV C (.ref k o) (.ptr id ver 0 o)
 |own {k id ver e len:Nat} (h:C k=some (.atp id ver e len)):RV C (.own k) (.sl e id ver 0 len none)
 |ownn {k:Nat} {y:AV} (h:C k=some .nil) (hy:y=.v (.slice none 0 0)):RV C (.own k) y
 |el {k i o id ver e len:Nat} (h:C k=some (.atp id ver e len)):RV C (.el k i o) (.ptr id ver i o)
 |map {k id ver e len:Nat} (h:C k=some (.atp id ver e len)):RV C (.map k) (.map id)
 |fn {f:FuncId} {a b:List PV} {a' b':List AV} (h1:a.length=a'.length) (h2:b.length=b'.length)
   (v1:∀(j:Nat) (x:PV) (y:AV),a[j]? =some x->a'[j]? =some y->RV C x y) (v2:∀(j:Nat) (x:PV) (y:AV),b[j]? =some x->b'[j]? =some y->RV C x y):RV C (.fn f a b) (.fn (.func f) a' b')
 |yld {k id ver e len:Nat} (h:C k=some (.atp id ver e len)):RV C (.yld k) (.fn (.yield id) [] [])
 |agg {cs:List PV} {cs':List AV} (hl:cs.length=cs'.length) (hc:∀(j:Nat) (x:PV) (y:AV),cs[j]? =some x->cs'[j]? =some y->RV C x y):RV C (.agg cs) (.agg cs')
 |tup {cs:List PV} {cs':List AV} (hl:cs.length=cs'.length) (hc:∀(j:Nat) (x:PV) (y:AV),cs[j]? =some x->cs'[j]? =some y->RV C x y):RV C (.tup cs) (.tup cs')
 |zs {d e:Nat} {rows:List (List PV)} {y:AV} (h:RZ C.z d (.is e rows) y):RV C (.zs d e rows) y
 |zm {es:List (PV×PV)} {id:Nat} {es':List (AV×AV)} (h:C.z id=some (.map es')) (he:EM es es'):RV C (.zm es) (.map id)
 |zm0:RV C (.zm []) (.v (.map none))
theorem RV.mono {C C':Cx} (a:C.le C') {x:PV} {y:AV} (h:RV C x y):RV C' x y:=by
 induction h with
 |cl h=>exact .cl h
 |undef=>exact .undef
 |ref h=>exact .ref (a.1 _ _ h)
 |own h=>exact .own (a.1 _ _ h)
 |ownn h hy=>exact .ownn (a.1 _ _ h) hy
 |el h=>exact .el (a.1 _ _ h)
 |map h=>exact .map (a.1 _ _ h)
 |yld h=>exact .yld (a.1 _ _ h)
 |fn h1 h2 v1 v2 i1 i2=>exact .fn h1 h2 i1 i2
 |agg hl hc ih=>exact .agg hl ih
 |tup hl hc ih=>exact .tup hl ih
 |zs h=>exact .zs (RZ.mono a.2 h)
 |zm h he=>exact .zm (a.2 _ _ h) he
 |zm0=>exact .zm0
def cV (C:Cx) (e:dY) (t:aA AV):Prop:=∀i v,dQ e i=some v->∃y,t[i]? =some y/\RV C v y
def StR:Bool->aB Ex->LoopState->aB IC->Prop
 |false,none,st,pend=>st=.ready/\pend=none
 |true,none,st,pend=>st=.busy
 |false,some (.exit i),st,pend=>st=.done/\pend=some (.exit i)
 |false,some .ret,st,pend=>st=.done/\pend=some .ret
 |_,_,_,_=>False
def iH (C:Cx) (L:Nat->aB AO) (lim nS:Nat):fP->Pl->Prop
 |.box cells,.atp id ver _ _=>lim<=id/\id<nS/\∃ty esz row,L id=some (.arr true ty esz ver [row])/\LR (RV C) cells row
 |.lst _ e _ rows,.nil=>rows=[]
 |.lst ty e g rows,.atp id ver e' len=>lim<=id/\id<nS/\e'=e/\len=rows.length/\∃els,L id=some (.arr false (zD ty) e ver els)/\RR rows (els.take rows.length)/\rows.length<=els.length/\(g=false->els.length=rows.length)
 |.lz _ _ _ rows,.nil=>rows=[]
 |.lz ty e dp rows,.atp id ver e' len=>lim<=id/\id<nS/\e'=e/\len=rows.length/\fM ty=false/\∃els,L id=some (.arr false ty e ver els)/\Ar C.z dp rows els
 |.mp es,.atp id _ _ _=>lim<=id/\id<nS/\∃es',L id=some (.map es')/\EM es es'
 |.fl fs,.atp id ver e len=>lim<=id/\id<nS/\e=1/\len=fs.length/\∃ty els,L id=some (.arr false ty 1 ver els)/\els.length=fs.length/\∀(i:Nat) (f:PV) (row:aA AV),fs[i]? =some f->els[i]? =some row->LR (RV C) [f] row
 |.loop N e ps a b busy fin,.atp id _ _ _=>lim<=id/\id<nS/\∃st pend tmps,L id=some (.loop st pend tmps ps (iG a) (iG b))/\tmps.length=N/\cV C e tmps/\StR busy fin st pend
 |_,_=>False
def nbO:AO->Bool
 |.arr bx _ _ _ _=> !bx
 |.map _=>true
 |_=>false
structure HR (C:Cx) (h:aQ) (L:Nat->Option AO) (lim nS:Nat):Prop where
 ob:∀k po,aL h k=some po->∃pl,C k=some pl/\iH C L lim nS po pl
 inj:∀k k' id v e l v' e' l',aL h k≠none->aL h k'≠none->C k=some (.atp id v e l)->C k'=some (.atp id v' e' l')->k=k'
 zr:∀id o,C.z id=some o->L id=some o/\id<nS/\(∀k v e l,aL h k≠none->C k≠some (.atp id v e l))/\nbO o=true
def Own (C:Cx) (h:aQ) (id:Nat):Prop:=∃k v e l,aL h k≠none/\C k=some (.atp id v e l)
def dU:aA eY->aA eY->Prop
 |[],[]=>True
 |.mark::a,.mark::b=>dU a b
 |.ob i _::a,.ob j _::b=>i=j/\dU a b
 |_,_=>False
def Sk (h h':aA eY) (n:Nat):Prop:=∃pre r,h'=pre++r/\dU r h/\∀e∈pre,∃i o,e=.ob i o/\n<=i
theorem dU.refl:∀h,dU h h
 |[]=>trivial
 |.mark::a=>dU.refl a
 |.ob _ _::a=>⟨rfl,dU.refl a⟩
theorem dU.trans:∀{a b c:aA eY},dU a b->dU b c->dU a c
 |[],[],[],_,_=>trivial
 |.mark::a,.mark::b,.mark::c,h,k=>dU.trans (a:=a) h k
 |.ob _ _::a,.ob _ _::b,.ob _ _::c,h,k=>⟨h.1.trans k.1,dU.trans h.2 k.2⟩
theorem dU.upd:∀(h:aA eY) (id:Nat) (o:AO),dU (upd h id o) h
 |[],_,_=>trivial
 |.mark::a,id,o=>dU.upd a id o
 |.ob i o'::a,id,o=>by
  simp only[Sim.upd]
  split
  exact⟨rfl,.refl a⟩
  exact⟨rfl,dU.upd a id o⟩
theorem dU.split:∀{x pre r:aA eY},dU x (pre++r)->∃p q,x=p++q/\dU p pre/\dU q r
 |x,[],r,h=>⟨[],x,rfl,trivial,h⟩
 |.mark::x,.mark::pre,r,h=>by
  obtain⟨p,q,rfl,h1,h2⟩:=dU.split (x:=x) (pre:=pre) (r:=r) h
  exact⟨.mark::p,q,rfl,h1,h2⟩
 |.ob i o::x,.ob j o'::pre,r,h=>by
  obtain⟨p,q,rfl,h1,h2⟩:=dU.split (x:=x) (pre:=pre) (r:=r) h.2
  exact⟨.ob i o::p,q,rfl,⟨h.1,h1⟩,h2⟩
 |[],.mark::_,_,h=>h.elim
 |[],.ob _ _::_,_,h=>h.elim
 |.mark::_,.ob _ _::_,_,h=>h.elim
 |.ob _ _::_,.mark::_,_,h=>h.elim
theorem dU.obs {n:Nat}:∀{p pre:aA eY},dU p pre->(∀e∈pre,∃i o,e=.ob i o/\n<=i)->∀e∈p,∃i o,e=.ob i o/\n<=i
 |[],[],_,_,e,he=>by simp at he
 |.mark::p,.mark::pre,h,hp,e,he=>by simp_all
 |.ob i o::p,.ob j o'::pre,h,hp,e,he=>by
  rcases qI2.1 he with rfl|he
  obtain⟨b,a,k,hk⟩:=hp (.ob j o') (by simp)
  cases k
  exact⟨i,o,rfl,by rw[h.1];exact hk⟩
  exact dU.obs h.2 (fun e he=>hp e (by simp[he])) e he
theorem Sk.refl (h:aA eY) (n:Nat):Sk h h n:=⟨[],h,rfl,.refl h,fun e he=>by simp at he⟩
theorem Sk.trans {a b c:aA eY} {n m:Nat} (h:Sk a b n) (k:Sk b c m) (g:n<=m):Sk a c n:=by
 obtain⟨p,r,rfl,h1,h2⟩:=h;obtain⟨q,r',rfl,f,i⟩:=k;obtain⟨x,y,rfl,d,e2⟩:=f.split;refine⟨q++x,y,by simp,e2.trans h1,fun e he=>?_⟩;rcases rF2.1 he with he|he
 grind
 exact d.obs h2 e he
theorem Sk.upd (h:aA eY) (id:Nat) (o:AO) (n:Nat):Sk h (upd h id o) n:=⟨[],_,rfl,.upd h id o,fun e he=>by simp at he⟩
theorem Sk.new (h:aA eY) (o:AO) (n:Nat):Sk h (.ob n o::h) n:=⟨[.ob n o],h,rfl,.refl h,fun e he=>by simp at he;exact⟨n,o,he,pQ2 _⟩⟩
theorem xP {n:Nat}:∀{pre r:aA eY} {id:Nat},(∀e∈pre,∃i o,e=.ob i o/\n<=i)->id<n->Sim.look (pre++r) id=Sim.look r id
 |[],r,id,_,_=>rfl
 |e::pre,r,id,h,hid=>by
  obtain⟨i,o,rfl,hi⟩:=h e (by simp)
  simp only[tB2,Sim.look]
  rw[pT2 (by omega)]
  exact xP (fun e he=>h e (by simp[he])) hid
theorem Mv {n:Nat}:∀{pre r:aA eY},(∀e∈pre,∃i o,e=.ob i o/\n<=i)->∃a,Sim.popMark (pre++.mark::r)=a++r/\∀e∈a,∃i o,e=.ob i o/\n<=i
 |[],r,_=>⟨[],rfl,fun e he=>by simp at he⟩
 |e::pre,r,h=>by
  obtain⟨i,o,rfl,hi⟩:=h e (by simp)
  obtain⟨a,h1,h2⟩:=Mv (r:=r) (fun e he=>h e (sD2 _ he))
  have keep:∃b,eY.ob i o::Sim.popMark (pre++.mark::r)=b++r/\∀e∈b,∃i o,e=.ob i o/\n<=i:=
   ⟨.ob i o::a,by rw[h1];rfl,fun e he=>by
    rcases qI2.1 he with rfl|he
    exact⟨i,o,rfl,hi⟩
    exact h2 e he⟩
  simp only[tB2,Sim.popMark]
  split
  exact⟨a,h1,h2⟩
  exact keep
theorem Sk.pop {h h':aA eY} {n:Nat} (hs:Sk (.mark::h) h' n):Sk h (Sim.popMark h') n/\∀id,id<n->Sim.look (Sim.popMark h') id=Sim.look h' id:=by
 obtain⟨pre,r,rfl,h1,h2⟩:=hs
 match r,h1 with
 |.mark::r,h1=>
  obtain⟨b,d,c⟩:=Mv (r:=r) h2;rw[d];refine⟨⟨b,r,rfl,h1,c⟩,fun id a=>?_⟩;rw[xP c a,xP h2 a];rfl
end Go.P
namespace Go.P
open Go.Sim (AV AO Hp eY upd St IC IX Ex dW CK Wf)
section
variable {R:Type}
theorem As (x:Value) (K:Value->aB R):Jz x K=K x:=by cases x<;>rfl
theorem Uj (x:PV) (K:PV->aB R):fPV x K=K x:=by
 cases x<;>simp[fPV,As]
theorem oM:∀(xs:aA PV) (K:aA PV->aB R),rF xs K=K xs
 |[],K=>rfl
 |x::xs,K=>by simp[rF,Uj,oM xs]
theorem gQ1:∀(xs:aA PV) (K:aA PV->aB R),fV.fT xs K=K xs
 |[],K=>rfl
 |x::xs,K=>by
  have ih:=fun K=>gQ1 xs (K:aA PV->aB R)
  cases x<;>simp[fV.fT,Uj,oM,ih]
theorem Mw (x:PV) (K:PV->aB R):fV x K=K x:=by
 cases x<;>simp[fV,As,oM,gQ1]
theorem bJ {a b:Nat}:Nat.beq a b=decide (a=b):=by
 rw[Bool.eq_iff_iff];simp[Nat.beq_eq]
theorem eZ:∀(e:dY) (i:Nat) (K:PV->aB R),mU e i K=(dQ e i).bind K
 |[],_,_=>rfl
 |(j,v)::r,i,K=>by
  simp only[mU,dQ,bJ]
  by_cases h:j=i<;>simp[h,eZ r i K]
theorem fZ:∀(i:Nat) (a:aA Nat),zL i a=a.contains i
 |_,[]=>rfl
 |i,j::a=>by
  simp only[zL,bJ,List.contains_cons,fZ i a]
  by_cases h:i=j<;>simp[h]
def edel:dY->aA Nat->dY
 |[],_=>[]
 |(j,v)::r,is=>if j∈is then edel r is else(j,v)::edel r is
theorem dR:∀(e:dY) (is:aA Nat) (K:dY->aB R),gL e is K=K (edel e is)
 |[],_,_=>rfl
 |(j,v)::r,is,K=>by
  simp only[gL,fZ,edel]
  by_cases h:j∈is
  simp[h,dR r is K]
  simp[h,dR r is]
theorem tB:∀(e:dY) (is:aA Nat) (i:Nat),dQ (edel e is) i=if i∈is then none else dQ e i
 |[],is,i=>by simp[edel,dQ]
 |(j,v)::r,is,i=>by
  have ih:=tB r is i
  simp only[edel]
  by_cases h:j∈is
  rw[pW2 h,ih]
  by_cases h2:j=i
  subst h2;simp[h]
  simp[dQ,h2]
  rw[pT2 h]
  by_cases h2:j=i
  subst h2;simp[dQ,h]
  simp only[dQ,pT2 h2,ih]
def evs (e:dY):aA PX->aB (aA PV)
 |[]=>some []
 |.t i::xs=>(dQ e i).bind fun v=>(evs e xs).bind fun vs=>some (v::vs)
 |.c x::xs=>(evs e xs).bind fun vs=>some (x::vs)
theorem gM (e:dY):∀(xs:aA PX) (K:aA PV->aB R),nM e xs K=(evs e xs).bind K
 |[],K=>rfl
 |.t i::xs,K=>by
  simp only[nM,eZ,evs,tK2]
  congr 1
  funext v
  rw[gM e xs]
  simp[tK2]
 |.c x::xs,K=>by
  simp only[nM,evs,tK2]
  rw[gM e xs]
  simp[tK2]
theorem mM:∀(n:Nat) (l:aA PV) (K:aA PV->aB R) (r:R),nN n l K=some r->n<=l.length/\K (l.take n)=some r
 |0,l,K,r,h=>⟨qJ2 _,by simpa[nN]using h⟩
 |n+1,[],K,r,h=>by simp[nN]at h
 |n+1,a::as,K,r,h=>by
  simp only[nN]at h
  obtain⟨h1,h2⟩:=mM n as _ r h
  exact⟨by simp;omega,by simpa using h2⟩
theorem dL:∀(n:Nat) (l:aA PV) (K:aA PV->aB R) (r:R),fX n l K=some r->n<=l.length/\K (l.drop n)=some r
 |0,l,K,r,h=>⟨qJ2 _,by simpa[fX]using h⟩
 |n+1,[],K,r,h=>by simp[fX]at h
 |n+1,a::as,K,r,h=>by
  simp only[fX]at h
  obtain⟨h1,h2⟩:=dL n as _ r h
  exact⟨by simp;omega,by simpa using h2⟩
theorem lO {α:Type} (a:α):∀(cs as:aA α) (n:Nat),Sim.setL (a::as) (n+1) cs=a::Sim.setL as n cs
 |[],as,n=>rfl
 |c::cs,as,n=>by simp only[Sim.setL,List.set_cons_succ];exact lO a cs _ _
theorem gY:∀(l:aA PV) (o:Nat) (cs:aA PV) (K:aA PV->aB R) (r:R),pR l o cs K=some r->o+cs.length<=l.length/\K (Sim.setL l o cs)=some r
 |l,0,[],K,r,h=>⟨by simp,by simpa[pR,Sim.setL]using h⟩
 |[],0,c::cs,K,r,h=>by simp[pR]at h
 |[],n+1,cs,K,r,h=>by simp[pR]at h
 |a::as,0,c::cs,K,r,h=>by
  simp only[pR]at h
  obtain⟨h1,h2⟩:=gY as 0 cs _ r h
  refine⟨by simp;omega,?_⟩
  simp only[Sim.setL,List.set_cons_zero]
  rw[lO]
  exact h2
 |a::as,n+1,cs,K,r,h=>by
  simp only[pR]at h
  obtain⟨h1,h2⟩:=gY as n cs _ r h
  exact⟨by simp;omega,by rw[lO];exact h2⟩
theorem eG:∀(h:aQ) (k:Nat) (K:fP->aB R),hK h k K=(aL h k).bind K
 |[],_,_=>rfl
 |(j,v)::r,i,K=>by
  simp only[hK,aL,bJ]
  by_cases h:j=i<;>simp[h,eG r i K]
def eF:aQ->Nat->fP->aQ
 |[],_,_=>[]
 |(j,v)::r,i,o=>if j=i then(j,o)::r else(j,v)::eF r i o
theorem dM:∀(h:aQ) (k:Nat) (o:fP) (K:aQ->aB R) (r:R),fY h k o K=some r->K (eF h k o)=some r
 |[],_,_,_,_,h=>by simp[fY]at h
 |(j,v)::t,i,o,K,r,h=>by
  simp only[fY,bJ]at h
  by_cases e:j=i
  simp only[e,rG2,qD2]at h
  simp only[eF,e,qQ2];exact h
  simp only[e,rQ2,qS2]at h
  simp only[eF,pT2 e]
  exact dM t i o _ r h
theorem fC:∀(h:aQ) (k:Nat) (o:fP) (j:Nat),aL (eF h k o) j=if j=k/\(aL h k).isSome then some o else aL h j
 |[],k,o,j=>by simp[eF,aL]
 |(i,v)::r,k,o,j=>by
  have ih:=fC r k o j
  by_cases h1:i=k
  subst h1
  simp only[eF,qQ2,aL]
  by_cases h2:i=j
  subst h2;simp
  grind
  simp only[eF,pT2 h1,aL]
  by_cases h2:i=j
  subst h2;simp[h1]
  grind
def dV:PV->aB (aA PV)
 |.agg cs=>some cs
 |.tup _=>none
 |.undef=>none
 |x=>some [x]
theorem jP (x:PV) (K:aA PV->aB R):lE x K=(dV x).bind K:=by cases x<;>rfl
theorem nT {C:Cx} {x:PV} {y:AV} {cs:aA PV} (h:RV C x y) (hc:dV x=some cs):∃cs',y.cells=some cs'/\LR (RV C) cs cs':=by
 have one:∀{z:PV} {w:AV},RV C z w->(∀l,w≠.agg l)->(∀l,w≠.tup l)->cs=[z]->∃cs',w.cells=some cs'/\LR (RV C) cs cs':=by
  intro z w f h1 h2 e;subst e;refine⟨[w],?_,.cons f .nil⟩;cases w<;>simp_all[AV.cells]
 cases h with
 |cl h=>
  cases h with
  |agg hl hc'=>simp[dV]at hc;subst hc;exact⟨_,rfl,hl,fun j x y a b=>.cl (hc' j x y a b)⟩
  |tup hl hc'=>simp[dV]at hc
  |v x=>exact one (.cl (.v x)) (by intro l e;cases e) (by intro l e;cases e) (by simpa[dV]using hc.symm)
  |is a b c=>exact one (.cl (.is a b c)) (by intro l e;cases e) (by intro l e;cases e) (by simpa[dV]using hc.symm)
  |isn=>exact one (.cl .isn) (by intro l e;cases e) (by intro l e;cases e) (by simpa[dV]using hc.symm)
  |ip a b=>exact one (.cl (.ip a b)) (by intro l e;cases e) (by intro l e;cases e) (by simpa[dV]using hc.symm)
  |im a b c=>exact one (.cl (.im a b c)) (by intro l e;cases e) (by intro l e;cases e) (by simpa[dV]using hc.symm)
  |fn a b c d=>exact one (.cl (.fn a b c d)) (by intro l e;cases e) (by intro l e;cases e) (by simpa[dV]using hc.symm)
 |undef=>simp[dV]at hc
 |agg hl hc'=>simp[dV]at hc;subst hc;exact⟨_,rfl,hl,hc'⟩
 |tup hl hc'=>simp[dV]at hc
 |ref h=>exact one (.ref h) (by intro l e;cases e) (by intro l e;cases e) (by simpa[dV]using hc.symm)
 |own h=>exact one (.own h) (by intro l e;cases e) (by intro l e;cases e) (by simpa[dV]using hc.symm)
 |ownn h hy=>subst hy;exact one (.ownn h rfl) (by intro l e;cases e) (by intro l e;cases e) (by simpa[dV]using hc.symm)
 |el h=>exact one (.el h) (by intro l e;cases e) (by intro l e;cases e) (by simpa[dV]using hc.symm)
 |map h=>exact one (.map h) (by intro l e;cases e) (by intro l e;cases e) (by simpa[dV]using hc.symm)
 |yld h=>exact one (.yld h) (by intro l e;cases e) (by intro l e;cases e) (by simpa[dV]using hc.symm)
 |fn a b c d=>exact one (.fn a b c d) (by intro l e;cases e) (by intro l e;cases e) (by simpa[dV]using hc.symm)
 |@zs d e rows y h=>
  refine one (.zs h) ?_ ?_ (by simpa[dV]using hc.symm);intro l e;subst e;cases d with
  |zero=>cases h
  |succ d=>rcases h with h|⟨_,_,_,_,_,_,_,h,_⟩<;>cases h
  intro l e;subst e;cases d with
  |zero=>cases h
  |succ d=>rcases h with h|⟨_,_,_,_,_,_,_,h,_⟩<;>cases h
 |zm h he=>exact one (.zm h he) (by intro l e;cases e) (by intro l e;cases e) (by simpa[dV]using hc.symm)
 |zm0=>exact one .zm0 (by intro l e;cases e) (by intro l e;cases e) (by simpa[dV]using hc.symm)
theorem My (a b:IntKind):kEq a b=decide (a=b):=by cases a<;>cases b<;>rfl
theorem LR.zero {C:Cx} (zero:aA Value):LR (RV C) (zero.map .v) (Sim.zeroRow zero):=by
 unfold Sim.zeroRow
 induction zero with
 |nil=>exact .nil
 |cons a as ih=>exact .cons (.cl (.v a)) ih
theorem LR.zeroP (zero:aA Value):LR (RC true) (zero.map .v) (Sim.zeroRow zero):=by
 unfold Sim.zeroRow
 induction zero with
 |nil=>exact .nil
 |cons a as ih=>exact .cons (.v a) ih
theorem RV.plain {C:Cx} {x:PV} {y:AV} (h:RV C x y) (hp:eO x=true):RC true x y:=by
 cases h with
 |cl h=>exact h.plain hp
 |_=>simp[eO]at hp
theorem LR.plain {C:Cx} {xs:aA PV} {ys:aA AV} (h:LR (RV C) xs ys) (hp:xs.all eO=true):LR (RC true) xs ys:=
 ⟨h.1,fun j x y a b=>(h.2 j x y a b).plain (pX2.1 hp x (pZ2 a))⟩
theorem rO (e:Nat):∀(xs:aA PV) (K:aA (aA PV)->aB R) (r:R),rK e xs K=some r->∃rows,K rows=some r/\rows.length=xs.length/\
  ∀(i:Nat) (x:PV),xs[i]? =some x->∃cs,dV x=some cs/\cs.length=e/\cs.all eO=true/\rows[i]? =some cs
 |[],K,r,h=>⟨[],h,rfl,fun i x d=>by simp at d⟩
 |x::xs,K,r,h=>by
  simp only[rK,jP,pM2]at h
  obtain⟨cs,a,h⟩:=h
  by_cases hc:(Nat.beq cs.length e&&cs.all eO)=true
  rw[hc,qD2]at h
  simp only[pN2,bJ,pU2]at hc
  obtain⟨rows,h1,h2,b⟩:=rO e xs _ r h
  refine⟨cs::rows,h1,by simp[h2],fun i y hy=>?_⟩
  cases i with
  |zero=>simp at hy;subst hy;exact⟨cs,a,hc.1,hc.2,rfl⟩
  |succ i=>simp at hy;obtain⟨c,f,g,j,k⟩:=b i y hy;exact⟨c,f,g,j,by simpa using k⟩
  grind
theorem Au:∀(i:Nat) (a:aA Nat),Pr i a=true->a=List.range' i a.length
 |_,[],_=>rfl
 |i,j::a,h=>by
  simp only[Pr,bJ]at h
  by_cases e:i=j
  simp only[e,rG2,qD2]at h
  subst e
  rw[rB2,List.range'_succ]
  congr 1
  exact Au _ a h
  simp[e]at h
end
end Go.P
namespace Go.P
open Go.Sim (AV AO Hp eY upd St IC IX Ex dW CK Wf Out doOp)
structure cG (C:Cx) (n:Nat) (h:aQ) (lim:Nat) (s:Hp):Prop where
 hr:HR C h (Sim.look s.h) lim s.n
 dom:∀k pl,C k=some pl->k<n
 wf:Wf s.h s.n
 lim:lim<=s.n
def eM:fP->Bool
 |.lst ty _ _ _=>fM ty
 |.lz .. =>false
 |_=>true
structure Fr (C:Cx) (h:aQ) (s:Hp) (C':Cx) (h':aQ) (s':Hp):Prop where
 sk:Sk s.h s'.h s.n
 n:s.n<=s'.n
 keep:∀id,id<s.n->¬Own C h id->Sim.look s'.h id=Sim.look s.h id
 own:∀id,id<s.n->Own C' h' id->Own C h id
 kd:∀k o,aL h k=some o->∃o',aL h' k=some o'/\(eM o'=true->eM o=true/\C' k=C k)
 zl:∀id o,C.z id=some o->C'.z id=some o
 zn:∀id,id<s.n->C'.z id≠none->C.z id≠none\/Own C h id
theorem Fr.refl (C:Cx) (h:aQ) (s:Hp):Fr C h s C h s:=⟨.refl _ _,pQ2 _,fun _ _ _=>rfl,fun _ _ h=>h,fun k o h=>⟨o,h,fun hb=>⟨hb,rfl⟩⟩,fun _ _ h=>h,fun _ _ h=>.inl h⟩
theorem Fr.trans {C C' C'':Cx} {h h' d:aQ} {s s' e:Hp} (a:Fr C h s C' h' s') (b:Fr C' h' s' C'' d e):Fr C h s C'' d e:=
  ⟨a.sk.trans b.sk a.n,qT2 a.n b.n,fun id c j=>by
    rw[b.keep id (rT2 c a.n) (fun g=>j (a.own id c g)),a.keep id c j],
   fun id c g=>a.own id c (b.own id (rT2 c a.n) g),
   fun k o hk=>by
    obtain⟨o',h1,h2⟩:=a.kd k o hk
    obtain⟨i,l,f⟩:=b.kd k o' h1
    exact⟨i,l,fun hb=>⟨(h2 (f hb).1).1,(f hb).2.trans (h2 (f hb).1).2⟩⟩,
   fun id o h=>b.zl id o (a.zl id o h),
   fun id c h=>by
    rcases b.zn id (rT2 c a.n) h with h1|h1
    exact a.zn id c h1
    exact .inr (a.own id c h1)⟩
def dZ {R:Type} (C:Cx) (n:Nat) (h:aQ) (lim:Nat) (s:Hp) (k:dW) (ys:aA AV) (K:PV->aQ->Nat->aB R) (r:R):Prop:=
 ∃v h' n' C' out,K v h' n'=some r/\doOp (Sim.look s.h) lim s.n k ys=some out/\RV C' v out.v/\cG C' n' h' lim (out.apply s)/\
  C.le C'/\n<=n'/\Fr C h s C' h' (out.apply s)/\(Gq k=false->∀id,id<s.n->Sim.look (out.apply s).h id=Sim.look s.h id)
section
variable {R:Type} {C:Cx} {n:Nat} {h:aQ} {lim:Nat} {s:Hp} {k:dW} {ys:List AV} {K:PV->aQ->Nat->Option R} {r:R}
theorem bH (a:cG C n h lim s) {v:PV} {y:AV} (hd:doOp (Sim.look s.h) lim s.n k ys=some {v:=y}) (hv:RV C v y) (hK:K v h n=some r):dZ C n h lim s k ys K r:=
 ⟨v,h,n,C,_,hK,hd,hv,a,.refl C,pQ2 _,.refl _ _ _,fun _ _ _=>rfl⟩
theorem dT {h:aA eY} {n:Nat} {o:AO} {id:Nat}:Sim.look (.ob n o::h) id=if n=id then some o else Sim.look h id:=rfl
def ext (C:Cx) (n:Nat) (pl:Pl):Cx:=⟨fun k=>if k=n then some pl else C k,C.z⟩
theorem iV (a:cG C n h lim s) (pl:Pl):C.le (ext C n pl):=⟨fun k q hk=>by
 have:=a.dom k q hk
 simp only[ext]
 rw[pT2 (by omega)]
 exact hk,fun _ _ h=>h⟩
theorem iH.mono {C':Cx} {L L':Nat->aB AO} {nS m:Nat} {po:fP} {pl:Pl} (p:nS<=m) (n:C.le C') (l:∀id ver e len,pl=.atp id ver e len->L' id=L id) (c:iH C L lim nS po pl):iH C' L' lim m po pl:=by
 cases po with
 |box cells=>
  cases pl with
  |nil=>exact c
  |atp id ver e len=>
   obtain⟨h1,h2,ty,esz,row,d,h⟩:=c;exact⟨h1,by omega,ty,esz,row,by rw[l id ver e len rfl];exact d,h.mono (fun x y hv=>hv.mono n)⟩
 |lst ty e g rows=>
  cases pl with
  |nil=>exact c
  |atp id ver e' len=>
   obtain⟨h1,h2,d,h,els,j,k⟩:=c;exact⟨h1,by omega,d,h,els,by rw[l id ver e' len rfl];exact j,k⟩
 |lz ty e dp rows=>
  cases pl with
  |nil=>exact c
  |atp id ver e' len=>
   obtain⟨h1,h2,d,h,hf,els,j,k⟩:=c;exact⟨h1,by omega,d,h,hf,els,by rw[l id ver e' len rfl];exact j,k.mono n.2⟩
 |mp es=>
  cases pl with
  |nil=>exact c
  |atp id ver e len=>
   obtain⟨h1,h2,es',d,h⟩:=c;exact⟨h1,by omega,es',by rw[l id ver e len rfl];exact d,h⟩
 |fl fs=>
  cases pl with
  |nil=>exact c
  |atp id ver e len=>
   obtain⟨h1,h2,d,h,ty,els,j,k,o⟩:=c;exact⟨h1,by omega,d,h,ty,els,by rw[l id ver e len rfl];exact j,k,fun i f row a b=>(o i f row a b).mono (fun x y hv=>hv.mono n)⟩
 |loop N e ps a b busy fin=>
  cases pl with
  |nil=>exact c
  |atp id ver e' len=>
   obtain⟨h1,h2,st,pend,tmps,d,h,j,k⟩:=c;exact⟨h1,by omega,st,pend,tmps,by rw[l id ver e' len rfl];exact d,h,fun i v hv=>(j i v hv).imp fun y hy=>⟨hy.1,hy.2.mono n⟩,k⟩
theorem iH.lt {L:Nat->aB AO} {nS id ver e len:Nat} {po:fP} (c:iH C L lim nS po (.atp id ver e len)):lim<=id/\id<nS:=by
 cases po with
 |box cells=>exact⟨c.1,c.2.1⟩
 |lst ty e g rows=>exact⟨c.1,c.2.1⟩
 |lz ty e dp rows=>exact⟨c.1,c.2.1⟩
 |mp es=>exact⟨c.1,c.2.1⟩
 |fl fs=>exact⟨c.1,c.2.1⟩
 |loop N e ps a b busy fin=>exact⟨c.1,c.2.1⟩
theorem HR.lt {L:Nat->aB AO} {nS:Nat} (H:HR C h L lim nS) {k id ver e len:Nat} (hk:aL h k≠none) (a:C k=some (.atp id ver e len)):lim<=id/\id<nS:=by
 cases ho:aL h k with
 |none=>exact absurd ho hk
 |some po=>
  obtain⟨pl,h1,h2⟩:=H.ob k po ho;rw[a]at h1;cases h1;exact h2.lt
theorem Uk (a:cG C n h lim s) {k:Nat} (hk:n<=k):C k=none:=by
 cases hc:C k with
 |none=>rfl
 |some pl=>have:=a.dom k pl hc;omega
theorem tC (a:cG C n h lim s) {k:Nat} (hk:n<=k):aL h k=none:=by
 cases hc:aL h k with
 |none=>rfl
 |some po=>
  obtain⟨pl,h1,_⟩:=a.hr.ob k po hc;have:=a.dom k pl h1;omega
theorem gR1 (b:cG C n h lim s) {po:fP} {pl:Pl}:∀k o,aL h k=some o->∃o',aL ((n,po)::h) k=some o'/\(eM o'=true->eM o=true/\ext C n pl k=C k):=fun k o hk=>by
 have a:n≠k:=fun e=>by rw[tC b (by omega)]at hk;cases hk
 exact⟨o,by simp[aL,a,hk],fun hb=>⟨hb,by simp[ext,Ne.symm a]⟩⟩
theorem nU (g:cG C n h lim s) {po:fP} {ao:AO} {ver e len:Nat} (z:iH (ext C n (.atp s.n ver e len)) (Sim.look (.ob s.n ao::s.h)) lim (s.n+1) po (.atp s.n ver e len)):
  cG (ext C n (.atp s.n ver e len)) (n+1) ((n,po)::h) lim {h:=.ob s.n ao::s.h,n:=s.n+1}/\Fr C h s (ext C n (.atp s.n ver e len)) ((n,po)::h) {h:=.ob s.n ao::s.h,n:=s.n+1}/\
  ∀id,id<s.n->Sim.look (.ob s.n ao::s.h) id=Sim.look s.h id:=by
 have p:=iV g (.atp s.n ver e len)
 have c:∀id,id<s.n->Sim.look (.ob s.n ao::s.h) id=Sim.look s.h id:=fun id i=>by
  rw[dT,pT2 (by omega)]
 have f:∀k,aL ((n,po)::h) k≠none->k≠n->aL h k≠none:=fun k hk j=>by
  simpa[aL,Ne.symm j]using hk
 have d:∀k q,k≠n->ext C n (.atp s.n ver e len) k=some q->C k=some q:=fun k q j hk=>by
  simpa[ext,j]using hk
 refine⟨⟨⟨fun k o hk=>?_,fun k k' id v1 m y v2 e2 B h1 h2 t u=>?_,fun id o A=>?_⟩,fun k pl hk=>?_,⟨by simp,g.wf⟩,by have:=g.lim;show lim<=s.n+1;omega⟩,⟨.new _ _ _,by simp,fun id i _=>c id i,fun id i w=>?_,gR1 g,fun _ _ h=>h,fun _ _ h=>.inl h⟩,c⟩;simp only[aL]at hk;split at hk;rename_i m;subst m;cases hk;exact⟨_,by simp[ext],z⟩;obtain⟨pl,x,r⟩:=g.hr.ob k o hk;refine⟨pl,p.1 _ _ x,r.mono (by simp) p (fun id ver e len hp=>?_)⟩;subst hp;exact c id r.lt.2;by_cases a:k=n;by_cases b:k'=n;rw[a,b];exfalso;subst a;simp[ext]at t;have:=(g.hr.lt (f k' h2 b) (d k' _ b u)).2;omega;by_cases b:k'=n;exfalso;subst b;simp[ext]at u;have:=(g.hr.lt (f k h1 a) (d k _ a t)).2;omega;exact g.hr.inj k k' id v1 m y v2 e2 B (f k h1 a) (f k' h2 b) (d k _ a t) (d k' _ b u);obtain⟨z1,z2,z3,z4⟩:=g.hr.zr id o A;refine⟨(c id z2).trans z1,Nat.lt_succ_of_lt z2,fun k v e' l h1 h2=>?_,z4⟩;by_cases a:k=n;subst a;simp[ext]at h2;omega
 grind
 by_cases a:k=n;omega;have:=g.dom k pl (d k pl a hk);omega;obtain⟨k,v1,m,y,x,r⟩:=w;by_cases a:k=n;subst a;simp[ext]at r;omega;exact⟨k,v1,m,y,f k x a,d k _ a r⟩
theorem Pw (C:Cx) (L:Nat->aB AO) (lim nS ty e:Nat) (g:Bool):iH C L lim nS (lN ty e g) .nil:=by
 unfold lN;cases Nat.ble 4294967296 e<;>rfl
theorem Ke (d:cG C n h lim s) {ty e:Nat} {g:Bool}:cG (ext C n .nil) (n+1) ((n,lN ty e g)::h) lim s/\Fr C h s (ext C n .nil) ((n,lN ty e g)::h) s:=by
 have m:=iV d .nil
 have f:∀k,aL ((n,lN ty e g)::h) k≠none->k≠n->aL h k≠none:=fun k hk i=>by
  simpa[aL,Ne.symm i]using hk
 have c:∀k q,k≠n->ext C n .nil k=some q->C k=some q:=fun k q i hk=>by
  simpa[ext,i]using hk
 refine⟨⟨⟨fun k o hk=>?_,fun k k' id v1 j w v2 e2 A h1 h2 x y=>?_,fun id o z=>?_⟩,fun k pl hk=>?_,d.wf,d.lim⟩,⟨.refl _ _,pQ2 _,fun id r _=>rfl,fun id r t=>?_,gR1 d,fun _ _ h=>h,fun _ _ h=>.inl h⟩⟩;simp only[aL]at hk;split at hk;rename_i j;subst j;cases hk;exact⟨.nil,by simp[ext],Pw ..⟩;obtain⟨pl,u,p⟩:=d.hr.ob k o hk;exact⟨pl,m.1 _ _ u,p.mono (pQ2 _) m (fun _ _ _ _ _=>rfl)⟩;by_cases a:k=n;subst a;simp[ext]at x;by_cases b:k'=n;subst b;simp[ext]at y;exact d.hr.inj k k' id v1 j w v2 e2 A (f k h1 a) (f k' h2 b) (c k _ a x) (c k' _ b y);obtain⟨z1,z2,z3,z4⟩:=d.hr.zr id o z;refine⟨z1,z2,fun k v e' l h1 h2=>?_,z4⟩;by_cases a:k=n;subst a;simp[ext]at h2
 grind
 by_cases a:k=n;omega;have:=d.dom k pl (c k pl a hk);omega;obtain⟨k,v1,j,w,u,p⟩:=t;by_cases a:k=n;subst a;simp[ext]at p;exact⟨k,v1,j,w,f k u a,c k _ a p⟩
theorem pV (f:cG C n h lim s) {k id ver e len:Nat} {po po':fP} {ao:AO} (hk:aL h k=some po) (q:C k=some (.atp id ver e len))
  (B:iH C (Sim.look (upd s.h id ao)) lim s.n po' (.atp id ver e len)) (hb:eM po'=eM po):
  cG C n (eF h k po') lim {h:=upd s.h id ao,n:=s.n}/\Fr C h s C (eF h k po') {h:=upd s.h id ao,n:=s.n}:=by
 have g:∀j,aL (eF h k po') j=if j=k then some po' else aL h j:=fun j=>by
  rw[fC];simp[hk]
 have c:∀j,aL (eF h k po') j≠none->aL h j≠none:=fun j d=>by grind
 have a:∀j,j≠id->Sim.look (upd s.h id ao) j=Sim.look s.h j:=fun j d=>by
  rw[Sim.look_upd];simp[d]
 refine⟨⟨⟨fun j o d=>?_,fun j w i v1 b m v2 e2 A h1 h2 x y=>f.hr.inj j w i v1 b m v2 e2 A (c j h1) (c w h2) x y,fun i o z=>?_⟩,f.dom,f.wf.upd _ _,f.lim⟩,⟨.upd _ _ _ _,pQ2 _,fun i hi t=>a i (fun b=>t ?_),fun i hi t=>?_,fun j o d=>?_,fun _ _ h=>h,fun _ _ h=>.inl h⟩⟩;rw[g]at d;split at d
 grind
 rename_i r;obtain⟨pl,p,u⟩:=f.hr.ob j o d;refine⟨pl,p,u.mono (pQ2 _) (.refl C) (fun i v1 b m hp=>a i (fun e2=>r ?_))⟩;subst hp;subst e2;exact f.hr.inj j k i v1 b m ver e len (by rw[d];simp) (by rw[hk];simp) p q;obtain⟨z1,z2,z3,z4⟩:=f.hr.zr i o z;refine⟨(a i (fun b=>?_)).trans z1,z2,fun j v e' l h1 h2=>z3 j v e' l (c j h1) h2,z4⟩;subst b;exact z3 k ver e len (by rw[hk];simp) q;subst b;exact⟨k,ver,e,len,by rw[hk];simp,q⟩;obtain⟨j,v1,b,m,p,u⟩:=t;exact⟨j,v1,b,m,c j p,u⟩
 grind
end
end Go.P
namespace Go.P
open Go.Sim (AV AO Hp eY upd St IC IX Ex dW CK Wf Out doOp)
section
variable {C:Cx} {y:AV}
theorem eQ {x:Value} (h:RV C (.v x) y):y=.v x:=by cases h with|cl h=>cases h;rfl
theorem lF {cs:aA PV} (h:RV C (.agg cs) y):∃cs',y=.agg cs'/\LR (RV C) cs cs':=by
 cases h with
 |cl h=>cases h with|agg a b=>exact⟨_,rfl,a,fun j x y p q=>.cl (b j x y p q)⟩
 |agg a b=>exact⟨_,rfl,a,b⟩
theorem Kf {cs:aA PV} (h:RV C (.tup cs) y):∃cs',y=.tup cs'/\LR (RV C) cs cs':=by
 cases h with
 |cl h=>cases h with|tup a b=>exact⟨_,rfl,a,fun j x y p q=>.cl (b j x y p q)⟩
 |tup a b=>exact⟨_,rfl,a,b⟩
theorem Av {cs:aA PV} (h:RV C (.ip cs) y):∃cs',y=.ip cs'/\LR (RC false) cs cs':=by
 cases h with
 |cl h=>cases h with|ip a b=>exact⟨_,rfl,a,b⟩
theorem Mz {e:Nat} {rows:aA (aA PV)} (h:RV C (.is e rows) y):(∃rows',y=.is e rows'/\RR rows rows')\/(rows=[]/\(y=.v (.slice none 0 0)\/y=.es)):=by
 cases h with
 |cl h=>cases h with
  |is a b c=>exact .inl ⟨_,rfl,.of_is a b c⟩
  |isn=>exact .inr ⟨rfl,.inl rfl⟩
theorem gS1 {es:aA (PV×PV)} (h:RV C (.im es) y):∃es',y=.im es'/\ER es es':=by
 cases h with
 |cl h=>cases h with|im a b c=>exact⟨_,rfl,a,fun j x y p q=>⟨b j x y p q,c j x y p q⟩⟩
theorem iW {k o:Nat} (h:RV C (.ref k o) y):∃id ver e len,C k=some (.atp id ver e len)/\y=.ptr id ver 0 o:=by
 cases h with
 |cl h=>cases h
 |ref h=>exact⟨_,_,_,_,h,rfl⟩
theorem gQ {k:Nat} (h:RV C (.own k) y):(∃id ver e len,C k=some (.atp id ver e len)/\y=.sl e id ver 0 len none)\/(C k=some .nil/\(y=.v (.slice none 0 0)\/y=.es)):=by
 cases h with
 |cl h=>cases h
 |own h=>exact .inl ⟨_,_,_,_,h,rfl⟩
 |ownn h hy=>exact .inr ⟨h,.inl hy⟩
theorem xQ {e:Nat} {rows:aA (aA PV)} (h:RV C (.is e rows) y):(∃rows',y=.is e rows'/\RR rows rows')\/(rows=[]/\y=.v (.slice none 0 0)):=by
 cases h with
 |cl h=>cases h with
  |is a b c=>exact .inl ⟨_,rfl,.of_is a b c⟩
  |isn=>exact .inr ⟨rfl,rfl⟩
theorem kS {k:Nat} (h:RV C (.own k) y):(∃id ver e len,C k=some (.atp id ver e len)/\y=.sl e id ver 0 len none)\/(C k=some .nil/\y=.v (.slice none 0 0)):=by
 cases h with
 |cl h=>cases h
 |own h=>exact .inl ⟨_,_,_,_,h,rfl⟩
 |ownn h hy=>exact .inr ⟨h,hy⟩
theorem xR {k i o:Nat} (h:RV C (.el k i o) y):∃id ver e len,C k=some (.atp id ver e len)/\y=.ptr id ver i o:=by
 cases h with
 |cl h=>cases h
 |el h=>exact⟨_,_,_,_,h,rfl⟩
theorem tD {k:Nat} (h:RV C (.map k) y):∃id ver e len,C k=some (.atp id ver e len)/\y=.map id:=by
 cases h with
 |cl h=>cases h
 |map h=>exact⟨_,_,_,_,h,rfl⟩
theorem Cu {k:Nat} (h:RV C (.yld k) y):∃id ver e len,C k=some (.atp id ver e len)/\y=.fn (.yield id) [] []:=by
 cases h with
 |cl h=>cases h
 |yld h=>exact⟨_,_,_,_,h,rfl⟩
theorem uN {f:FuncId} {a b:aA PV} (h:RV C (.fn f a b) y):∃a' b',y=.fn (.func f) a' b'/\LR (RV C) a a'/\LR (RV C) b b':=by
 cases h with
 |cl h=>cases h with|fn p q r s=>exact⟨_,_,rfl,⟨p,fun j x y h1 h2=>.cl (r j x y h1 h2)⟩,⟨q,fun j x y h1 h2=>.cl (s j x y h1 h2)⟩⟩
 |fn p q r s=>exact⟨_,_,rfl,⟨p,r⟩,⟨q,s⟩⟩
theorem LR.closed {xs:aA PV} {ys:aA AV} {p:Bool} (h:LR (RC p) xs ys):LR (RV C) xs ys:=h.mono fun _ _ h=>.cl h.weak
theorem tE {α:Type} {l:aA α} {o:Nat} {c:α} {t:aA α} (h:l.drop o=c::t):l[o]? =some c:=by
 have:=congrArg (fun l=>l[0]?) h;simpa[rI2]using this
end
section
variable {R:Type} {C:Cx} {n:Nat} {h:aQ} {lim:Nat} {s:Hp} {k:dW} {xs:List PV} {ys:List AV} {K:PV->aQ->Nat->Option R} {r:R}
theorem lG (C:Cx) (n:Nat) (pl:Pl):ext C n pl n=some pl:=pW2 rfl
theorem aD {A:Type} {a:A} {P:Prop} (h:(none:aB A)=some a):P:=by cases h
theorem jH1 (a:cG C n h lim s) (b:LR (RV C) xs ys) (hk:dB .mov xs h n K=some r):dZ C n h lim s .mov ys K r:=by
 rcases xs with _|⟨x,_|⟨x2,t⟩⟩
 exact aD hk;have hk:K x h n=some r:=hk;obtain⟨y,_,rfl,h1,h2⟩:=b.inv_cons;rw[h2.inv_nil];exact bH a rfl h1 hk;exact aD hk
theorem Zs (c:cG C n h lim s) (d:LR (RV C) xs ys) (hk:dB .nilc xs h n K=some r):dZ C n h lim s .nilc ys K r:=by
 rcases xs with _|⟨x,_|⟨x2,t⟩⟩
 exact aD hk;obtain⟨y,_,rfl,h1,h2⟩:=d.inv_cons;rw[h2.inv_nil];cases x with
 |ref k o=>obtain⟨id,ver,e,len,hc,rfl⟩:=iW h1;exact bH c rfl h1 hk
 |ip cs=>obtain⟨cs',rfl,_⟩:=Av h1;exact bH c rfl h1 hk
 |el k i o=>obtain⟨id,ver,e,len,hc,rfl⟩:=xR h1;exact bH c rfl h1 hk
 |fn f a b=>obtain⟨a',b',rfl,_⟩:=uN h1;exact bH c rfl h1 hk
 |yld k=>obtain⟨id,ver,e,len,hc,rfl⟩:=Cu h1;exact bH c rfl h1 hk
 |_=>exact aD hk
 exact aD hk
theorem jI1 {ty:TypeId} {size:Nat} (b:cG C n h lim s) (f:LR (RV C) xs ys) (hk:dB (.box ty size) xs h n K=some r):dZ C n h lim s (.box ty size) ys K r:=by
 rcases xs with _|⟨x,_|⟨x2,t⟩⟩
 exact aD hk;have hk:lE x (fun cs=>bif Nat.beq cs.length size then(bif Nat.beq size 0 then none else K (.ref n 0) ((n,.box cs)::h) (n+1))else none)=some r:=hk;obtain⟨y,_,rfl,h1,h2⟩:=f.inv_cons;rw[h2.inv_nil];rw[jP,pM2]at hk;obtain⟨cs,c,hk⟩:=hk;obtain⟨cs',hc',hl⟩:=nT h1 c;rw[bJ]at hk;by_cases d:cs.length=size;rw[qP2 d,qD2,bJ]at hk;by_cases e2:size=0
 grind
 rw[qW2 e2,qS2]at hk;have a:=iV b (.atp s.n 0 size 1);obtain⟨g,i,j⟩:=nU b (po:=.box cs) (ao:=.arr true ty size 0 [cs']) (ver:=0) (e:=size) (len:=1) ⟨b.lim,by omega,ty,size,cs',by rw[dT,pW2 rfl],hl.mono (fun _ _ h=>h.mono a)⟩;refine⟨_,_,_,_,{v:=.ptr s.n 0 0 0,new:=some (.arr true ty size 0 [cs'])},hk,?_,.ref (lG C n _),g,a,by omega,i,fun _=>j⟩;simp only[doOp,hc'];rw[pW2 ⟨by rw[<-hl.1];exact d,e2⟩]
 grind
 exact aD hk
theorem Ul {ty:TypeId} {zero:aA Value} (a:cG C n h lim s) (c:LR (RV C) xs ys) (hk:dB (.alloc ty zero) xs h n K=some r):dZ C n h lim s (.alloc ty zero) ys K r:=by
 rcases xs with _|⟨x,t⟩
 have hk:rF (zero.map .v) (fun cs=>K (.ref n 0) ((n,.box cs)::h) (n+1))=some r:=hk;rw[oM]at hk;rw[c.inv_nil];have b:=iV a (.atp s.n 0 zero.length 1);obtain⟨d,f,g⟩:=nU a (po:=.box (zero.map .v)) (ao:=.arr true ty zero.length 0 [Sim.zeroRow zero]) (ver:=0) (e:=zero.length) (len:=1) ⟨a.lim,by omega,ty,zero.length,Sim.zeroRow zero,by rw[dT,pW2 rfl],LR.zero zero⟩;exact⟨_,_,_,_,{v:=.ptr s.n 0 0 0,new:=some (.arr true ty zero.length 0 [Sim.zeroRow zero])},hk,rfl,.ref (lG C n _),d,b,by omega,f,fun _=>g⟩;exact aD hk
theorem xS:∀(cells:aA PV) (parts:aA (Nat×Nat)) (xs:aA PV) (K:aA PV->aB R) (r:R) (a ys:aA AV),Gl cells parts xs K=some r->LR (RV C) cells a->LR (RV C) xs ys->
  ∃cs cs',K cs=some r/\Sim.fillParts a parts ys=some cs'/\LR (RV C) cs cs'
 |cells,[],[],K,r,a,ys,h,hl,hx=>by
  rw[hx.inv_nil]
  exact⟨cells,a,h,rfl,hl⟩
 |cells,(off,m)::ps,x::xs,K,r,a,ys,h,hl,hx=>by
  obtain⟨y,d,rfl,h1,h2⟩:=hx.inv_cons
  simp only[Gl,jP,pM2]at h
  obtain⟨cs,c,h⟩:=h
  obtain⟨cs',hc',b⟩:=nT h1 c
  rw[bJ]at h
  by_cases e:cs.length=m
  rw[qP2 e,qD2]at h
  obtain⟨i,f⟩:=gY _ _ _ _ _ h
  obtain⟨q,g,q1,q2,q3⟩:=xS _ ps xs K r _ d f (hl.setL b off) h2
  refine⟨q,g,q1,?_,q3⟩
  simp only[Sim.fillParts,hc']
  rw[pW2 ⟨by rw[<-b.1];exact e,by rw[<-hl.1];omega⟩]
  exact q2
  grind
 |cells,[],_::_,K,r,a,ys,h,hl,hx=>aD h
 |cells,_::_,[],K,r,a,ys,h,hl,hx=>aD h
theorem Um {zero:aA Value} {parts:aA (Nat×Nat)} (e:cG C n h lim s) (f:LR (RV C) xs ys) (hk:dB (.build zero parts) xs h n K=some r):dZ C n h lim s (.build zero parts) ys K r:=by
 have hk:rF (zero.map .v) (fun cs=>Gl cs parts xs fun cs=>K (.agg cs) h n)=some r:=by
  rcases xs with _|⟨a,_|⟨b,_|⟨c,t⟩⟩⟩<;>exact hk
 rw[oM]at hk;obtain⟨cs,cs',g,i,d⟩:=xS _ _ _ _ _ _ _ hk (LR.zero (C:=C) zero) f;refine bH e ?_ (.agg d.1 d.2) g;rcases ys with _|⟨a,_|⟨b,_|⟨c,t⟩⟩⟩<;>simp[doOp,i]
theorem pW (f:cG C n h lim s) {k id ver e len:Nat} {cs:aA PV} (hg:aL h k=some (.box cs)) (d:C k=some (.atp id ver e len)):lim<=id/\∃ty esz row,Sim.look s.h id=some (.arr true ty esz ver [row])/\LR (RV C) cs row:=by
 obtain⟨pl,h1,h2⟩:=f.hr.ob k _ hg;rw[d]at h1;cases h1;obtain⟨a,b,c⟩:=h2;exact⟨a,c⟩
theorem iB (j:cG C n h lim s) {k id ver e len e2 ty:Nat} {g:Bool} {rows:aA (aA PV)} (hg:aL h k=some (.lst ty e2 g rows)) (i:C k=some (.atp id ver e len)):lim<=id/\e=e2/\len=rows.length/\∃els,Sim.look s.h id=some (.arr false (zD ty) e2 ver els)/\RR rows (els.take rows.length)/\rows.length<=els.length/\(g=false->els.length=rows.length):=by
 obtain⟨pl,h1,h2⟩:=j.hr.ob k _ hg;rw[i]at h1;cases h1;obtain⟨a,b,c,d,f⟩:=h2;exact⟨a,c,d,f⟩
theorem Un (j:cG C n h lim s) {k id ver e len:Nat} {fs:aA PV} (hg:aL h k=some (.fl fs)) (g:C k=some (.atp id ver e len)):lim<=id/\e=1/\len=fs.length/\∃ty els,Sim.look s.h id=some (.arr false ty 1 ver els)/\els.length=fs.length/\∀(i:Nat) (f:PV) (row:aA AV),fs[i]? =some f->els[i]? =some row->LR (RV C) [f] row:=by
 obtain⟨pl,h1,h2⟩:=j.hr.ob k _ hg;rw[g]at h1;cases h1;obtain⟨a,b,c,d,f⟩:=h2;exact⟨a,c,d,f⟩
theorem Uo (b:cG C n h lim s) {k:Nat} {fs:aA PV} (hg:aL h k=some (.fl fs)) (a:C k=some .nil):False:=by
 obtain⟨pl,h1,h2⟩:=b.hr.ob k _ hg;rw[a]at h1;cases h1;exact h2
theorem jI (b:cG C n h lim s) {k e2 ty:Nat} {g:Bool} {rows:aA (aA PV)} (hg:aL h k=some (.lst ty e2 g rows)) (a:C k=some .nil):rows=[]:=by
 obtain⟨pl,h1,h2⟩:=b.hr.ob k _ hg;rw[a]at h1;cases h1;exact h2
theorem Gt (f:cG C n h lim s) {k id ver e len:Nat} {es:aA (PV×PV)} (hg:aL h k=some (.mp es)) (d:C k=some (.atp id ver e len)):lim<=id/\∃es',Sim.look s.h id=some (.map es')/\EM es es':=by
 obtain⟨pl,h1,h2⟩:=f.hr.ob k _ hg;rw[d]at h1;cases h1;obtain⟨a,b,c⟩:=h2;exact⟨a,c⟩
theorem Aw {y:AV} {d e:Nat} {rows:aA (aA PV)} (h:RV C (.zs d e rows) y):RZ C.z d (.is e rows) y:=by
 cases h with
 |cl h=>cases h
 |zs h=>exact h
theorem gT1 {y:AV} {es:aA (PV×PV)} (h:RV C (.zm es) y):(∃id es',y=.map id/\C.z id=some (.map es')/\EM es es')\/(es=[]/\y=.v (.map none)):=by
 cases h with
 |cl h=>cases h
 |zm h he=>exact .inl ⟨_,_,rfl,h,he⟩
 |zm0=>exact .inr ⟨rfl,rfl⟩
theorem uO (b:cG C n h lim s) {k id ver e len e2 ty dp:Nat} {rows:aA (aA PV)} (hg:aL h k=some (.lz ty e2 dp rows)) (a:C k=some (.atp id ver e len)):lim<=id/\id<s.n/\e=e2/\len=rows.length/\fM ty=false/\∃els,Sim.look s.h id=some (.arr false ty e2 ver els)/\Ar C.z dp rows els:=by
 obtain⟨pl,h1,h2⟩:=b.hr.ob k _ hg;rw[a]at h1;cases h1;exact h2
theorem tF (b:cG C n h lim s) {k e2 ty dp:Nat} {rows:aA (aA PV)} (hg:aL h k=some (.lz ty e2 dp rows)) (a:C k=some .nil):rows=[]:=by
 obtain⟨pl,h1,h2⟩:=b.hr.ob k _ hg;rw[a]at h1;cases h1;exact h2
theorem gU1 {p:Bool} {e:Nat} {rows:aA (aA PV)} {y:AV} (h:RC p (.is e rows) y):(∃rows',y=.is e rows'/\RR rows rows')\/(rows=[]/\y=.v (.slice none 0 0)):=by
 cases h with
 |is a b c=>exact .inl ⟨_,rfl,.of_is a b c⟩
 |isn=>exact .inr ⟨rfl,rfl⟩
theorem Ax {z:Nat->aB AO} {d e:Nat} {rows:aA (aA PV)} {y:AV} (h:RZ z d (.is e rows) y):
  ((∃rows',y=.is e rows'/\RR rows rows')\/(rows=[]/\y=.v (.slice none 0 0)))\/∃c id ver ty els,d=c+1/\y=.sl e id ver 0 rows.length none/\z id=some (.arr false ty e ver els)/\rows.length<=els.length/\Ar z c rows (els.take rows.length):=by
 cases d with
 |zero=>exact .inl (gU1 h)
 |succ d=>
  rcases h with h|⟨e',rows',id,ver,ty,els,h1,h2,h3,h4,h5⟩
  exact .inl (gU1 h);cases h1;refine .inr ⟨d,id,ver,ty,els,rfl,h2,h3,h4,by simp[Nat.min_eq_left h4],fun i r r' a b=>h5 i r r' a ?_⟩;rw[rA2]at b;split at b;exact b;cases b
theorem Kg {rows:aA (aA PV)} {els:aA (aA AV)} (hr:RR rows (els.take rows.length)) {i:Nat} {row:aA PV} (hi:rows[i]? =some row):∃a,els[i]? =some a/\LR (RC true) row a:=by
 obtain⟨a,h1,h2⟩:=hr.get hi;have b:i<rows.length:=(pO2.1 hi).1;rw[rA2,pW2 b]at h1;exact⟨a,h1,h2⟩
def Ay (C:Cx) (n:Nat) (h:aQ) (s:Hp) (k:dW) (ys:aA AV) (K:PV->aQ->Nat->aB R) (r:R):Prop:=∃v y,(∀lim nS,doOp (Sim.look s.h) lim nS k ys=some {v:=y})/\RV C v y/\K v h n=some r
theorem xT {k:dW} {v:PV} {y:AV} (hd:∀lim nS,doOp (Sim.look s.h) lim nS k ys=some {v:=y}) (hv:RV C v y) (hK:K v h n=some r):Ay C n h s k ys K r:=⟨v,y,hd,hv,hK⟩
theorem Ay.step (d:cG C n h lim s) {k:dW} (h1:Ay C n h s k ys K r):dZ C n h lim s k ys K r:=by
 obtain⟨v,y,a,b,c⟩:=h1;exact bH d (a _ _) b c
theorem xU (l:cG C n h lim s) (B:LR (RV C) xs ys) (hk:dB .loadS xs h n K=some r):Ay C n h s .loadS ys K r:=by
 rcases xs with _|⟨x,_|⟨x2,t⟩⟩
 exact aD hk;obtain⟨y,_,rfl,h1,h2⟩:=B.inv_cons;rw[h2.inv_nil];cases x with
 |ref k o=>
  have hk:hK h k (fun ob=>match ob with
   |.box cs=>fX o cs fun cs=>match cs with
    |c::_=>K c h n
    |[]=>none
   |_=>none)=some r:=hk
  rw[eG,pM2]at hk;obtain⟨ob,hg,hk⟩:=hk;cases ob with
  |box cs=>
   obtain⟨D,a⟩:=dL _ _ _ _ hk;obtain⟨id,ver,e,len,d,rfl⟩:=iW h1;obtain⟨_,ty,esz,row,j,hl⟩:=pW l hg d;cases hd:cs.drop o with
   |nil=>rw[hd]at a;exact aD a
   |cons c t=>
    rw[hd]at a;obtain⟨y,hy,hv⟩:=hl.get (tE hd);exact xT (fun lim nS=>by simp[doOp,j,hy]) hv a
  |_=>exact aD hk
 |ip cs=>
  obtain⟨cs',rfl,hl⟩:=Av h1;cases cs with
  |nil=>exact aD hk
  |cons c t=>
   obtain⟨y,q,rfl,hv,_⟩:=hl.inv_cons;exact xT (fun _ _=>rfl) (.cl hv) hk
 |el k i o=>
  have hk:hK h k (fun ob=>match ob with
   |.lst _ _ _ rows=>bU (xI rows i o) fun c=>K c h n
   |.fl fs=>bif Nat.beq o 0 then(fX i fs fun fs=>match fs with
    |f::_=>K f h n
    |[]=>none)else none
   |_=>none)=some r:=hk
  rw[eG,pM2]at hk;obtain⟨ob,hg,hk⟩:=hk;cases ob with
  |lst ty e2 g rows=>
   simp only[bO,pM2,xI]at hk;obtain⟨c,⟨row,hi,A⟩,hk⟩:=hk;obtain⟨id,ver,e,len,d,rfl⟩:=xR h1;obtain⟨_,rfl,_,els,j,hr,_⟩:=iB l hg d;obtain⟨u,m,hl⟩:=Kg hr hi;obtain⟨y,hy,hv⟩:=hl.get A;exact xT (fun lim nS=>by simp[doOp,j,m,hy]) (.cl hv.weak) hk
  |fl fs=>
   simp only[bJ]at hk;by_cases v:o=0;subst v;rw[qP2 rfl,qD2]at hk;obtain⟨D,a⟩:=dL _ _ _ _ hk;obtain⟨id,ver,e,len,d,rfl⟩:=xR h1;obtain⟨_,_,_,ty,els,j,hlen,hr⟩:=Un l hg d;cases hd:fs.drop i with
   |nil=>rw[hd]at a;exact aD a
   |cons c t=>
    rw[hd]at a;have hi:=tE hd;have w:=(pO2.1 hi).1;obtain⟨y,q,b,hv,z⟩:=(hr i c (els[i]'(by omega)) hi (by simp)).inv_cons;rw[z.inv_nil]at b;have p:els[i]? =some [y]:=by rw[<-b];simp
    exact xT (fun lim nS=>by simp[doOp,j,p]) hv a
   grind
  |_=>exact aD hk
 |_=>exact aD hk
 exact aD hk
theorem xV {m:Nat} (w:cG C n h lim s) (B:LR (RV C) xs ys) (hk:dB (.loadA m) xs h n K=some r):Ay C n h s (.loadA m) ys K r:=by
 rcases xs with _|⟨x,_|⟨x2,t⟩⟩
 exact aD hk;obtain⟨y,_,rfl,h1,h2⟩:=B.inv_cons;rw[h2.inv_nil];cases x with
 |ref k o=>
  have hk:hK h k (fun ob=>match ob with
   |.box cs=>fX o cs fun cs=>nN m cs fun cs=>K (.agg cs) h n
   |_=>none)=some r:=hk
  rw[eG,pM2]at hk;obtain⟨ob,hg,hk⟩:=hk;cases ob with
  |box cs=>
   obtain⟨E,D⟩:=dL _ _ _ _ hk;obtain⟨u,v⟩:=mM _ _ _ _ D;obtain⟨id,ver,e,len,f,rfl⟩:=iW h1;obtain⟨_,ty,esz,row,l,hl⟩:=pW w hg f;have hlen:=hl.1;simp only[List.length_drop]at u;have d:=(hl.drop o).take m;exact xT (fun lim nS=>by simp[doOp,l];omega) (.agg d.1 d.2) v
  |_=>exact aD hk
 |ip cs=>
  obtain⟨cs',rfl,hl⟩:=Av h1;have hk:nN m cs (fun cs=>K (.agg cs) h n)=some r:=hk;obtain⟨u,v⟩:=mM _ _ _ _ hk;have d:=hl.take m;refine xT (fun lim nS=>?_) (.cl (.agg d.1 d.2)) v;simp only[doOp];rw[pW2 (by rw[<-hl.1];exact u)]
 |el k i o=>
  have hk:hK h k (fun ob=>match ob with
   |.lst _ _ _ rows=>bU (rH rows i o m) fun cs=>K (.agg cs) h n
   |_=>none)=some r:=hk
  rw[eG,pM2]at hk;obtain⟨ob,hg,hk⟩:=hk;cases ob with
  |lst ty e2 g rows=>
   simp only[bO,pM2,rH]at hk;obtain⟨c,⟨row,hi,q⟩,hk⟩:=hk;split at q;rename_i A;cases q;obtain⟨id,ver,e,len,f,rfl⟩:=xR h1;obtain⟨_,rfl,_,els,l,hr,_⟩:=iB w hg f;obtain⟨z,p,hl⟩:=Kg hr hi;have d:=(hl.drop o).take m;have hlen:=hl.1;exact xT (fun lim nS=>by simp[doOp,l,p];omega) (.cl (.agg d.1 fun j x y a b=>(d.2 j x y a b).weak)) hk;cases q
  |_=>exact aD hk
 |_=>exact aD hk
 exact aD hk
theorem Up (a:cG C n h lim s) (b:LR (RV C) xs ys) (hk:dB .loadS xs h n K=some r):dZ C n h lim s .loadS ys K r:=(xU a b hk).step a
theorem Uq {m:Nat} (a:cG C n h lim s) (b:LR (RV C) xs ys) (hk:dB (.loadA m) xs h n K=some r):dZ C n h lim s (.loadA m) ys K r:=(xV a b hk).step a
theorem Ur {m:Nat} (y:cG C n h lim s) (S:LR (RV C) xs ys) (hk:dB (.store m) xs h n K=some r):dZ C n h lim s (.store m) ys K r:=by
 rcases xs with _|⟨p,_|⟨x,_|⟨x2,t⟩⟩⟩
 exact aD hk;exact aD hk;obtain⟨V,_,rfl,h1,h2⟩:=S.inv_cons;obtain⟨W,_,rfl,N,P⟩:=h2.inv_cons;rw[P.inv_nil];cases p with
 |ref k o=>
  have hk:hK h k (fun ob=>match ob with
   |.box cs=>lE x fun ys=>bif Nat.beq ys.length m then pR cs o ys fun cs=>fY h k (.box cs) fun h=>K .undef h n else none
   |_=>none)=some r:=hk
  rw[eG,pM2]at hk;obtain⟨ob,hg,hk⟩:=hk;cases ob with
  |box cs=>
   simp only[jP,pM2]at hk;obtain⟨zs,w,hk⟩:=hk;obtain⟨c,u,d⟩:=nT N w;rw[bJ]at hk;by_cases M:zs.length=m;rw[qP2 M,qD2]at hk;obtain⟨U,T⟩:=gY _ _ _ _ _ hk;have G:=dM _ _ _ _ _ T;obtain⟨id,ver,e,len,j,rfl⟩:=iW h1;obtain⟨b,ty,esz,row,z,hl⟩:=pW y hg j;have l:=(y.hr.lt (by rw[hg];simp) j).2;obtain⟨H,J⟩:=pV y (po':=.box (Sim.setL cs o zs)) (ao:=.arr true ty esz ver [Sim.setL row o c]) hg j ⟨b,l,ty,esz,_,by rw[Sim.look_upd];simp[z],hl.setL d o⟩ rfl;have hlen:=hl.1;have q:=d.1;refine⟨_,_,_,_,{v:=.undef,up:=some (id,.arr true ty esz ver [Sim.setL row o c])},G,?_,.undef,H,.refl _,pQ2 _,J,fun he=>by cases he⟩;simp only[doOp,u,z];rw[pW2 ⟨by trivial,b,by omega⟩];simp only[sF2];rw[pW2 (by omega)];rfl;rw[qW2 M]at hk;exact aD hk
  |_=>exact aD hk
 |el k i o=>
  have hk:hK h k (fun ob=>match ob with
   |.lst ty e g rows=>lE x fun ys=>bif Nat.beq ys.length m&&ys.all eO then bU (xH rows i o ys) fun rows=>fY h k (.lst ty e g rows) fun h=>K .undef h n else none
   |_=>none)=some r:=hk
  rw[eG,pM2]at hk;obtain⟨ob,hg,hk⟩:=hk;cases ob with
  |lst ty e2 g rows=>
   simp only[jP,pM2]at hk;obtain⟨zs,w,hk⟩:=hk;obtain⟨c,u,d⟩:=nT N w;by_cases hc:(Nat.beq zs.length m&&zs.all eO)=true;rw[hc,qD2,bO,pM2]at hk;simp only[pN2,bJ,pU2]at hc;obtain⟨L,a,hk⟩:=hk;have G:=dM _ _ _ _ _ hk;unfold xH at a;split at a;rename_i row hi;split at a;rename_i R;cases a;obtain⟨id,ver,e,len,j,rfl⟩:=xR h1;obtain⟨b,rfl,hlen,els,z,hr,A,B⟩:=iB y hg j;have l:=(y.hr.lt (by rw[hg];simp) j).2;obtain⟨f,D,hl⟩:=Kg hr hi;have O:i<rows.length:=(pO2.1 hi).1;have F:=d.plain hc.2
   obtain⟨H,J⟩:=pV y (po':=.lst ty e g (rows.set i (Sim.setL row o zs))) (ao:=.arr false (zD ty) e ver (els.set i (Sim.setL f o c))) hg j
    ⟨b,l,rfl,by simpa using hlen,els.set i (Sim.setL f o c),by rw[Sim.look_upd];simp[z],by
     rw[List.length_set,List.take_set];exact hr.set (hl.setL F o) i,by simpa using A,by simpa using B⟩ rfl
   have E:=hl.1;have q:=d.1;refine⟨_,_,_,_,{v:=.undef,up:=some (id,.arr false (zD ty) e ver (els.set i (Sim.setL f o c)))},G,?_,.undef,H,.refl _,pQ2 _,J,fun he=>by cases he⟩;simp only[doOp,u,z];rw[pW2 ⟨by trivial,b,by omega⟩,D];simp only;rw[pW2 (by omega)];cases a;cases a;simp only[tA2]at hc;rw[hc]at hk;exact aD hk
  |_=>exact aD hk
 |_=>exact aD hk
 exact aD hk
theorem jJ1 {off:Nat} (b:cG C n h lim s) (d:LR (RV C) xs ys) (hk:dB (.fad off) xs h n K=some r):dZ C n h lim s (.fad off) ys K r:=by
 rcases xs with _|⟨x,_|⟨x2,t⟩⟩
 exact aD hk;obtain⟨y,_,rfl,h1,h2⟩:=d.inv_cons;rw[h2.inv_nil];cases x with
 |ref k o=>
  obtain⟨id,ver,e,len,a,rfl⟩:=iW h1;exact bH b rfl (.ref a) hk
 |ip cs=>
  have hk:fX off cs (fun cs=>K (.ip cs) h n)=some r:=hk;obtain⟨g,f⟩:=dL _ _ _ _ hk;obtain⟨cs',rfl,hl⟩:=Av h1;have c:=hl.drop off;exact bH b rfl (.cl (.ip c.1 c.2)) f
 |el k i o=>
  obtain⟨id,ver,e,len,a,rfl⟩:=xR h1;exact bH b rfl (.el a) hk
 |_=>exact aD hk
 exact aD hk
end
end Go.P
namespace Go.P
open Go.Sim (AV AO Hp eY upd St IC IX Ex dW CK Wf Out doOp)
section
variable {R:Type} {C:Cx} {n:Nat} {h:aQ} {lim:Nat} {s:Hp} {k:dW} {xs:List PV} {ys:List AV} {K:PV->aQ->Nat->Option R} {r:R}
theorem jK1 {e:Nat} (f:cG C n h lim s) (B:LR (RV C) xs ys) (hk:dB (.iad e) xs h n K=some r):dZ C n h lim s (.iad e) ys K r:=by
 rcases xs with _|⟨x,_|⟨i,_|⟨x2,t⟩⟩⟩
 exact aD hk;exact aD hk;obtain⟨D,_,rfl,h1,h2⟩:=B.inv_cons;obtain⟨E,_,rfl,z,A⟩:=h2.inv_cons;rw[A.inv_nil];cases i with
 |v iv=>
  cases iv with
  |int kk i=>
   rw[eQ z];cases x with
   |is e' rows=>
    have hk:(bif Nat.beq e' e then bU (sX rows i) (fun row=>K (.ip row) h n)else none)=some r:=hk;rw[bJ]at hk;by_cases l:e'=e;subst l;simp only[rG2,qD2,bO,pM2,sX]at hk;obtain⟨row,c,hk⟩:=hk;split at c;rename_i h0;rcases Mz h1 with⟨rows',rfl,hr⟩|⟨rfl,_⟩
    obtain⟨u,q,hl⟩:=hr.get c;exact bH f (by simp[doOp,Sim.intOf,h0,q]) (.cl (.ip hl.1 fun j x y a b=>(hl.2 j x y a b).weak)) hk;simp at c;cases c
    grind
   |own k=>
    have hk:hK h k (fun ob=>match ob with
     |.lst _ e' _ rows=>bif Nat.beq e' e then bU (rG rows.length i) (fun i=>K (.el k i 0) h n)else none
     |.fl fs=>bif Nat.beq e 1 then Zq i (fun i=>bif Nat.blt i fs.length then K (.el k i 0) h n else none)else none
     |_=>none)=some r:=hk
    rw[eG,pM2]at hk;obtain⟨ob,hg,hk⟩:=hk;cases ob with
    |lst ty e2 g rows=>
     simp only[bJ]at hk;by_cases l:e2=e;subst l;simp only[rG2,qD2,bO,pM2,rG]at hk;obtain⟨m,p,o⟩:=hk;split at p;rename_i h0;cases p;rcases gQ h1 with⟨id,ver,w,len,d,rfl⟩|⟨d,_⟩
     obtain⟨_,rfl,hlen,_⟩:=iB f hg d;refine bH (v:=.el k i.toNat 0) (y:=.ptr id ver i.toNat 0) f ?_ (.el d) o;simp only[doOp,Sim.intOf];rw[pW2 ⟨by trivial,h0.1,by omega⟩,rP2];have:=jI f hg d;subst this;simp at h0;omega;cases p
     grind
    |fl fs=>
     simp only[bJ]at hk;by_cases l:e=1;subst l;rw[qP2 rfl,qD2]at hk;cases i with
     |negSucc m=>exact aD hk
     |ofNat m=>
      cases hlt:Nat.blt m fs.length with
      |false=>simp only[Zq,hlt,qS2]at hk;exact aD hk
      |true=>
       simp only[Zq,hlt,qD2]at hk;rw[rY2]at hlt;rcases gQ h1 with⟨id,ver,w,len,d,rfl⟩|⟨d,_⟩
       obtain⟨_,rfl,hlen,_⟩:=Un f hg d;refine bH (v:=.el k m 0) (y:=.ptr id ver m 0) f ?_ (.el d) hk;simp only[doOp,Sim.intOf];rw[pW2 ⟨by trivial,by simp,by simp;omega⟩,rP2];rfl;exact(Uo f hg d).elim
     grind
    |_=>exact aD hk
   |_=>exact aD hk
  |_=>exact aD hk
 |_=>exact aD hk
 exact aD hk
theorem Px (e:cG C n h lim s) (f:LR (RV C) xs ys) (hk:dB .idxStr xs h n K=some r):dZ C n h lim s .idxStr ys K r:=by
 rcases xs with _|⟨x,_|⟨i,_|⟨x2,t⟩⟩⟩
 exact aD hk;exact aD hk;obtain⟨j,_,rfl,h1,h2⟩:=f.inv_cons;obtain⟨k,_,rfl,c,d⟩:=h2.inv_cons;rw[d.inv_nil];cases x with
 |v xv=>
  cases xv with
  |string b=>
   cases i with
   |v iv=>
    cases iv with
    |int kk i=>
     rw[eQ h1,eQ c];have hk:bU (nO b i) (fun b=>K (.v (.int .u8 b)) h n)=some r:=hk;simp only[bO,pM2,nO]at hk;obtain⟨m,a,hk⟩:=hk;split at a;rename_i h0;simp only[pP2]at a;obtain⟨g,hb,rfl⟩:=a;refine bH e ?_ (.cl (.v _)) hk;simp only[doOp,Sim.intOf];rw[pW2 h0,hb];cases a
    |_=>exact aD hk
   |_=>exact aD hk
  |_=>cases i with
   |v iv=>cases iv<;>exact aD hk
   |_=>exact aD hk
 |_=>cases i with
  |v iv=>cases iv<;>exact aD hk
  |_=>exact aD hk
 exact aD hk
theorem Zt {len e:Nat} {agg:Bool} (b:cG C n h lim s) (j:LR (RV C) xs ys) (hk:dB (.idxA len e agg) xs h n K=some r):dZ C n h lim s (.idxA len e agg) ys K r:=by
 rcases xs with _|⟨x,_|⟨i,_|⟨x2,t⟩⟩⟩
 exact aD hk;exact aD hk;obtain⟨k,_,rfl,h1,h2⟩:=j.inv_cons;obtain⟨l,_,rfl,f,g⟩:=h2.inv_cons;rw[g.inv_nil];cases x with
 |agg cs=>
  obtain⟨cs',rfl,hl⟩:=lF h1;cases i with
  |v iv=>
   cases iv with
   |int kk i=>
    rw[eQ f];have hk:(bif agg then bU (nP cs i len e) (fun cs=>K (.agg cs) h n)else bU (rI cs i len e) fun c=>K c h n)=some r:=hk;cases agg with
    |true=>
     simp only[qD2,bO,pM2,nP]at hk;obtain⟨q,a,hk⟩:=hk;split at a;rename_i h0;cases a;have d:=(hl.drop (i.toNat*e)).take e;refine bH b ?_ (.agg d.1 d.2) hk;simp only[doOp,Sim.intOf];rw[pW2 ⟨h0.1,h0.2.1⟩];rfl;cases a
    |false=>
     simp only[qS2,bO,pM2,rI]at hk;obtain⟨q,a,hk⟩:=hk;split at a;rename_i h0;obtain⟨y,hy,hv⟩:=hl.get a;refine bH b ?_ hv hk;simp only[doOp,Sim.intOf];rw[pW2 h0];simp[hy];cases a
   |_=>exact aD hk
  |_=>exact aD hk
 |_=>cases i with
  |v iv=>cases iv<;>exact aD hk
  |_=>exact aD hk
 exact aD hk
theorem Py {op:BinOp} {x y:PV} {K:PV->aB R} {r:R} (hk:jE1 op x y K=some r):∃a b c,x=.v a/\y=.v b/\Sim.binS op a b=some c/\K (.v c)=some r:=by
 cases x with
 |v a=>
  cases y with
  |v b=>
   cases a with
   |int k a=>
    cases b with
    |int k' b=>
     have key:∀{z:aB R} {w:aB Value},(op≠.shl/\op≠.shr)->(jE1 op (.v (.int k a)) (.v (.int k' b)) K=bif kEq k k' then z else none)->(Sim.binS op (.int k a) (.int k' b)=if k=k' then w else none)->(z=some r->∃c,w=some c/\K (.v c)=some r)->∃a' b' c,PV.v (.int k a)=.v a'/\PV.v (.int k' b)=.v b'/\Sim.binS op a' b'=some c/\K (.v c)=some r:=by
      intro z w _ f e2 g;rw[f,My]at hk;by_cases e:k=k'
      .rw [qP2 e,qD2]at hk
       obtain⟨c,i,j⟩:=g hk;exact⟨_,_,c,rfl,rfl,by rw[e2,pW2 e];exact i,j⟩
      .rw [qW2 e]at hk;exact aD hk
     cases op
     case shl=>
      have hk:bU (if b<0 then none else some (k.wrap (a*2^min b.toNat k.bits))) (fun r=>K (.v (.int k r)))=some r:=hk;simp only[bO,pM2]at hk;obtain⟨q,d,hk⟩:=hk;split at d
      .cases d
      .rename_i h0
       cases d;exact⟨_,_,_,rfl,rfl,by simp only[Sim.binS];rw[pT2 h0],hk⟩
     case shr=>
      have hk:bU (if b<0 then none else some (a.fdiv (2^min b.toNat k.bits))) (fun r=>K (.v (.int k r)))=some r:=hk;simp only[bO,pM2]at hk;obtain⟨q,d,hk⟩:=hk;split at d
      .cases d
      .rename_i h0
       cases d;exact⟨_,_,_,rfl,rfl,by simp only[Sim.binS];rw[pT2 h0],hk⟩
     case add=>exact key (by simp) rfl rfl (fun h=>⟨_,rfl,h⟩)
     case sub=>exact key (by simp) rfl rfl (fun h=>⟨_,rfl,h⟩)
     case mul=>exact key (by simp) rfl rfl (fun h=>⟨_,rfl,h⟩)
     case and=>exact key (by simp) rfl rfl (fun h=>⟨_,rfl,h⟩)
     case or=>exact key (by simp) rfl rfl (fun h=>⟨_,rfl,h⟩)
     case xor=>exact key (by simp) rfl rfl (fun h=>⟨_,rfl,h⟩)
     case andNot=>exact key (by simp) rfl rfl (fun h=>⟨_,rfl,h⟩)
     case eql=>exact key (by simp) rfl rfl (fun h=>⟨_,rfl,h⟩)
     case neq=>exact key (by simp) rfl rfl (fun h=>⟨_,rfl,h⟩)
     case lss=>exact key (by simp) rfl rfl (fun h=>⟨_,rfl,h⟩)
     case leq=>exact key (by simp) rfl rfl (fun h=>⟨_,rfl,h⟩)
     case gtr=>exact key (by simp) rfl rfl (fun h=>⟨_,rfl,h⟩)
     case geq=>exact key (by simp) rfl rfl (fun h=>⟨_,rfl,h⟩)
     case quo=>exact key (z:=bU (if b=0 then none else some (k.wrap (a.tdiv b))) fun r=>K (.v (.int k r))) (by simp) rfl rfl (fun h=>by
      simp only[bO,pM2]at h;obtain⟨q,d,h⟩:=h;split at d
      .cases d
      .rename_i h0;cases d;exact⟨_,by rw[pT2 h0],h⟩)
     case rem=>exact key (z:=bU (if b=0 then none else some (a.tmod b)) fun r=>K (.v (.int k r))) (by simp) rfl rfl (fun h=>by
      simp only[bO,pM2]at h;obtain⟨q,d,h⟩:=h;split at d
      .cases d
      .rename_i h0;cases d;exact⟨_,by rw[pT2 h0],h⟩)
     all_goals (first|exact aD hk|exact key (z:=none) (w:=none) (by simp) rfl rfl (fun h=>aD h))
    |_=>exact aD hk
   |string a=>
    cases b with
    |string b=>
     cases op
     case add=>
      have hk:bU (if a.size+b.size<=2^62 then some (a++b)else none) (fun r=>K (.v (.string r)))=some r:=hk;simp only[bO,pM2]at hk;obtain⟨q,d,hk⟩:=hk;split at d
      .rename_i h0
       cases d;exact⟨_,_,_,rfl,rfl,by simp only[Sim.binS];rw[pW2 h0],hk⟩
      .cases d
     all_goals first|exact aD hk|exact⟨_,_,_,rfl,rfl,rfl,hk⟩
    |_=>exact aD hk
   |_=>exact aD hk
  |_=>exact aD hk
 |_=>exact aD hk
theorem jL1 {op:BinOp} (f:cG C n h lim s) (g:LR (RV C) xs ys) (hk:dB (.bin op) xs h n K=some r):dZ C n h lim s (.bin op) ys K r:=by
 rcases xs with _|⟨x,_|⟨i,_|⟨x2,t⟩⟩⟩
 exact aD hk;exact aD hk;obtain⟨j,_,rfl,h1,h2⟩:=g.inv_cons;obtain⟨k,_,rfl,d,e⟩:=h2.inv_cons;rw[e.inv_nil];obtain⟨a,b,c,rfl,rfl,hb,hk⟩:=Py (K:=fun v=>K v h n) hk;rw[eQ h1,eQ d];exact bH f (by simp[doOp,hb]) (.cl (.v c)) hk;exact aD hk
theorem jM1 {neg:Bool} (e:cG C n h lim s) (f:LR (RV C) xs ys) (hk:dB (.eqB neg) xs h n K=some r):dZ C n h lim s (.eqB neg) ys K r:=by
 rcases xs with _|⟨x,_|⟨i,_|⟨x2,t⟩⟩⟩
 exact aD hk;exact aD hk;obtain⟨g,_,rfl,h1,h2⟩:=f.inv_cons;obtain⟨j,_,rfl,c,d⟩:=h2.inv_cons;rw[d.inv_nil];cases x with
 |v xv=>
  cases xv with
  |bool a=>
   cases i with
   |v iv=>
    cases iv with
    |bool b=>
     rw[eQ h1,eQ c];exact bH e rfl (.cl (.v _)) hk
    |_=>exact aD hk
   |_=>exact aD hk
  |_=>cases i with
   |v iv=>cases iv<;>exact aD hk
   |_=>exact aD hk
 |_=>cases i with
  |v iv=>cases iv<;>exact aD hk
  |_=>exact aD hk
 exact aD hk
theorem Az:∀(ks:aA CK) (as i:aA PV) (K:Bool->aB R) (r:R) (c d:aA AV),Zp ks as i K=some r->LR (RV C) as c->LR (RV C) i d->
  ∃b,Sim.cellsEq ks c d=some b/\K b=some r/\c.length=ks.length/\d.length=ks.length
 |[],[],[],K,r,c,d,h,ha,hb=>by
  rw[ha.inv_nil,hb.inv_nil]
  exact⟨true,rfl,h,rfl,rfl⟩
 |k::ks,a::as,b::i,K,r,c,d,h,ha,hb=>by
  obtain⟨y,ys,rfl,h1,h2⟩:=ha.inv_cons
  obtain⟨z,zs,rfl,l,m⟩:=hb.inv_cons
  simp only[Zp]at h
  obtain⟨t,p,f,s,u⟩:=Az ks as i _ r ys zs h h2 m
  have fin:∀q:Bool,Sim.cellEq k y z=some q->K (q&&t)=some r->∃b,Sim.cellsEq (k::ks) (y::ys) (z::zs)=some b/\K b=some r/\(y::ys).length=(k::ks).length/\(z::zs).length=(k::ks).length:=by
   intro q n hK;refine⟨q&&t,?_,hK,by simp[s],by simp[u]⟩;simp only[Sim.cellsEq,n];cases q;rfl;simpa using p
  split at f;rename_i j x o g;rw[My]at f;by_cases e:j=o;rw[qP2 e,qD2]at f;rw[eQ h1,eQ l]at fin ⊢;exact fin (x==g) (by simp[Sim.cellEq,e]) f
  grind
  rename_i x g;rw[eQ h1,eQ l]at fin ⊢;exact fin (x==g) rfl f;rename_i x g;rw[eQ h1,eQ l]at fin ⊢;exact fin (x==g) rfl f;exact aD f
 |[],_::_,_,_,_,_,_,h,_,_=>aD h
 |[],[],_::_,_,_,_,_,h,_,_=>aD h
 |_::_,[],_,_,_,_,_,h,_,_=>aD h
 |_::_,_::_,[],_,_,_,_,h,_,_=>aD h
theorem jN1 {neg:Bool} {ks:aA CK} (f:cG C n h lim s) (j:LR (RV C) xs ys) (hk:dB (.eqA neg ks) xs h n K=some r):dZ C n h lim s (.eqA neg ks) ys K r:=by
 rcases xs with _|⟨x,_|⟨i,_|⟨x2,t⟩⟩⟩
 exact aD hk;exact aD hk;obtain⟨p,_,rfl,h1,h2⟩:=j.inv_cons;obtain⟨q,_,rfl,d,e⟩:=h2.inv_cons;rw[e.inv_nil];cases x with
 |agg as=>
  cases i with
  |agg bs=>
   obtain⟨a,rfl,g⟩:=lF h1;obtain⟨c,rfl,hb⟩:=lF d;obtain⟨b,k,l,m,o⟩:=Az ks as bs _ r a c hk g hb;refine bH f ?_ (.cl (.v _)) l;simp only[doOp];rw[pW2 ⟨m,o⟩,k]
  |_=>exact aD hk
 |_=>cases i<;>exact aD hk
 exact aD hk
theorem oP1 {op:UnOp} (a:cG C n h lim s) (b:LR (RV C) xs ys) (hk:dB (.un op) xs h n K=some r):dZ C n h lim s (.un op) ys K r:=by
 rcases xs with _|⟨x,_|⟨x2,t⟩⟩
 exact aD hk;obtain⟨y,_,rfl,h1,h2⟩:=b.inv_cons;rw[h2.inv_nil];cases x with
 |v xv=>
  rw[eQ h1];cases op<;>cases xv<;>first|exact aD hk|exact bH a rfl (.cl (.v _)) hk
 |_=>cases op<;>exact aD hk
 exact aD hk
theorem Us {k:IntKind} (a:cG C n h lim s) (b:LR (RV C) xs ys) (hk:dB (.convI k) xs h n K=some r):dZ C n h lim s (.convI k) ys K r:=by
 rcases xs with _|⟨x,_|⟨x2,t⟩⟩
 exact aD hk;obtain⟨y,_,rfl,h1,h2⟩:=b.inv_cons;rw[h2.inv_nil];cases x with
 |v xv=>
  rw[eQ h1];cases xv<;>first|exact aD hk|exact bH a rfl (.cl (.v _)) hk
 |_=>exact aD hk
 exact aD hk
theorem Gu (b:ByteArray):RR (byteRows b) (Sim.byteRows b):=by
 unfold byteRows Sim.byteRows
 induction b.data.toList with
 |nil=>exact .nil
 |cons a as ih=>exact .cons (.cons (.v _) .nil) ih
theorem jO1 {t:TypeId} (a:cG C n h lim s) (c:LR (RV C) xs ys) (hk:dB (.s2b t) xs h n K=some r):dZ C n h lim s (.s2b t) ys K r:=by
 rcases xs with _|⟨x,_|⟨x2,t⟩⟩
 exact aD hk;obtain⟨y,_,rfl,h1,h2⟩:=c.inv_cons;rw[h2.inv_nil];cases x with
 |v xv=>
  rw[eQ h1];cases xv with
  |string b=>exact bH a rfl (.cl (Gu b).is) hk
  |_=>exact aD hk
 |_=>exact aD hk
 exact aD hk
theorem Zu {f:Fn} {m:Nat} (g:cG C n h lim s) (e:LR (RV C) xs ys) (hk:dB (.mkfn f m) xs h n K=some r):dZ C n h lim s (.mkfn f m) ys K r:=by
 cases f with
 |func f=>
  have hk:nN m xs (fun a=>fX m xs fun b=>K (.fn f a b) h n)=some r:=by
   rcases xs with _|⟨a,_|⟨b,_|⟨c,t⟩⟩⟩<;>exact hk
  obtain⟨_,i⟩:=mM _ _ _ _ hk;obtain⟨_,j⟩:=dL _ _ _ _ i;have d:=e.take m;have hb:=e.drop m;refine bH g ?_ (.fn d.1 hb.1 d.2 hb.2) j;rcases ys with _|⟨a,_|⟨b,_|⟨c,t⟩⟩⟩<;>rfl
 |_=>rcases xs with _|⟨a,_|⟨b,_|⟨c,t⟩⟩⟩<;>exact aD hk
theorem Ut (a:cG C n h lim s) (c:LR (RV C) xs ys) (hk:dB .mkmap xs h n K=some r):dZ C n h lim s .mkmap ys K r:=by
 rcases xs with _|⟨x,t⟩
 have hk:K (.map n) ((n,.mp [])::h) (n+1)=some r:=hk;rw[c.inv_nil];have b:=iV a (.atp s.n 0 0 1);obtain⟨d,f,g⟩:=nU a (po:=.mp []) (ao:=.map []) (ver:=0) (e:=0) (len:=1) ⟨a.lim,by omega,[],by rw[dT,pW2 rfl],rfl,fun j x y h=>by simp at h⟩;exact⟨_,_,_,_,{v:=.map s.n,new:=some (.map [])},hk,rfl,.map (lG C n _),d,b,by omega,f,fun _=>g⟩;exact aD hk
theorem Zv {ty:TypeId} {e b:Nat} {zero:aA Value} (d:cG C n h lim s) (o:LR (RV C) xs ys) (hk:dB (.mksl ty e b zero) xs h n K=some r):dZ C n h lim s (.mksl ty e b zero) ys K r:=by
 rcases xs with _|⟨x,_|⟨i,_|⟨x2,t⟩⟩⟩
 exact aD hk;exact aD hk;obtain⟨w,_,rfl,h1,h2⟩:=o.inv_cons;obtain⟨y,_,rfl,k,m⟩:=h2.inv_cons;rw[m.inv_nil];cases x with
 |v xv=>
  cases xv with
  |int k1 l=>
   cases i with
   |v iv=>
    cases iv with
    |int k2 c=>
     rw[eQ h1,eQ k];have hk:(bif fM ty then none else rF (zero.map .v) (fun z=>bU (nQ l c z) fun rows=>K (.own n) ((n,.lst ty e true rows)::h) (n+1)))=some r:=hk;cases hfx:fM ty with
     |true=>rw[hfx]at hk;exact aD hk
     |false=>
     rw[hfx,qS2]at hk;have j:zD ty=ty:=by simp[zD,hfx]
     simp only[oM,bO,pM2,nQ]at hk;obtain⟨rows,g,hk⟩:=hk;split at g;rename_i h0;cases g;have f:=iV d (.atp s.n 0 e l.toNat);have a:l.toNat<=c.toNat:=by omega
     obtain⟨p,q,u⟩:=nU d (po:=.lst ty e true (List.replicate l.toNat (zero.map .v))) (ao:=.arr false ty e 0 (List.replicate c.toNat (Sim.zeroRow zero))) (ver:=0) (e:=e) (len:=l.toNat)
      ⟨d.lim,by omega,rfl,by simp,_,by rw[dT,pW2 rfl,j],by
       rw[List.length_replicate,List.take_replicate,Nat.min_eq_left a];exact RR.replicate (LR.zeroP zero) _,by simpa using a,fun h=>by cases h⟩
     refine⟨_,_,_,_,{v:=.sl e s.n 0 0 l.toNat none,new:=some (.arr false ty e 0 (List.replicate c.toNat (Sim.zeroRow zero)))},hk,?_,.own (lG C n _),p,f,by omega,q,fun _=>u⟩;simp only[doOp,Sim.intOf];rw[pW2 h0];cases g
    |_=>exact aD hk
   |_=>exact aD hk
  |_=>cases i with
   |v iv=>cases iv<;>exact aD hk
   |_=>exact aD hk
 |_=>cases i with
  |v iv=>cases iv<;>exact aD hk
  |_=>exact aD hk
 exact aD hk
end
end Go.P
namespace Go.P
open Go.Sim (AV AO Hp eY upd St IC IX Ex dW CK Wf Out doOp)
section
variable {R:Type} {C:Cx} {n:Nat} {h:aQ} {lim:Nat} {s:Hp} {k:dW} {xs:List PV} {ys:List AV} {K:PV->aQ->Nat->Option R} {r:R}
theorem Cv {lo hi:Bool} {len:Nat} {c:aA PV} {K:Int->Int->aB R} {a:aA AV} (b:LR (RV C) c a) (hk:vH lo hi len c K=some r):∃l q,Sim.bounds lo hi len a=some (l,q)/\K l q=some r:=by
 unfold vH at hk;split at hk;rw[b.inv_nil];exact⟨_,_,rfl,hk⟩;obtain⟨y,_,rfl,h1,h2⟩:=b.inv_cons;rw[h2.inv_nil,eQ h1];exact⟨_,_,rfl,hk⟩;obtain⟨y,_,rfl,h1,h2⟩:=b.inv_cons;rw[h2.inv_nil,eQ h1];exact⟨_,_,rfl,hk⟩;obtain⟨y,_,rfl,h1,h2⟩:=b.inv_cons;obtain⟨f,_,rfl,d,e⟩:=h2.inv_cons;rw[e.inv_nil,eQ h1,eQ d];exact⟨_,_,rfl,hk⟩;exact aD hk
theorem jP1 {e:Nat} {lo hi mx:Bool} (k:cG C n h lim s) (o:LR (RV C) xs ys) (hk:dB (.slc e lo hi mx) xs h n K=some r):dZ C n h lim s (.slc e lo hi mx) ys K r:=by
 rcases xs with _|⟨x,bs⟩
 exact aD hk;obtain⟨y,a,rfl,h1,h2⟩:=o.inv_cons
 have hk:(bif mx then none else match(generalizing:=false) x with
  |.is e' rows=>bif Nat.beq e' e then vH lo hi rows.length bs (fun l r=>bU (lM rows l r) fun rows=>K (.is e rows) h n)else none
  |_=>none)=some r:=by
  rcases bs with _|⟨b,_|⟨c,t⟩⟩<;>exact hk
 cases mx with
 |true=>exact aD hk
 |false=>
  rw[qS2]at hk;cases x with
  |is e' rows=>
   simp only[bJ]at hk;by_cases m:e'=e;subst m;rw[qP2 rfl,qD2]at hk;obtain⟨l,q,hb,hk⟩:=Cv h2 hk;simp only[bO,pM2,lM]at hk;obtain⟨j,f,hk⟩:=hk;split at f;rename_i h0;cases f;rcases xQ h1 with⟨rows',rfl,hr⟩|⟨rfl,hy⟩
   have hlen:=hr.1;refine bH k ?_ (.cl ((hr.drop l.toNat).take (q.toNat-l.toNat)).is) hk;have d:Sim.bounds lo hi rows'.length a=some (l,q):=by rw[<-hlen];exact hb
   have:Sim.sliceOp (Sim.look s.h) e' lo hi false (.is e' rows'::a)=some (.is e' ((rows'.drop l.toNat).take (q.toNat-l.toNat))):=by
    simp only[Sim.sliceOp];simp only[qA2,qX2,d];rw[pW2 ⟨by trivial,h0.1,h0.2.1,by rw[<-hlen];exact h0.2.2⟩]
   rcases a with _|⟨b,_|⟨c,t⟩⟩<;>simp only[doOp,this,qR2];have g:l=0:=by simp at h0;omega
   have i:q=0:=by simp at h0;omega
   subst g;subst i;have d:Sim.bounds lo hi 0 a=some (0,0):=hb
   have:Sim.sliceOp (Sim.look s.h) e' lo hi false (y::a)=some y:=by
    subst hy;simp[Sim.sliceOp,d]
   refine bH (y:=y) k ?_ ?_ hk;rcases a with _|⟨b,_|⟨c,t⟩⟩<;>simp only[doOp,this,qR2]
   grind
   cases f
   grind
  |_=>exact aD hk
theorem Ba {k:CK} {a b:PV} {a' b':AV} (c:RC false a a') (hb:RC false b b') {q:Bool} (h:oK k a b=some q):Sim.cellEq k a' b'=some q:=by
 unfold oK at h;split at h;cases c;cases hb;exact h;cases c;cases hb;exact h;cases c;cases hb;exact h;cases h
theorem pX:∀{ks:aA CK} {as e:aA PV} {c d:aA AV},LR (RC false) as c->LR (RC false) e d->∀{q:Bool},iQ ks as e=some q->Sim.cellsEq ks c d=some q
 |[],[],[],c,d,ha,hb,q,h=>by rw[ha.inv_nil,hb.inv_nil];exact h
 |k::ks,a::as,b::e,c,d,ha,hb,q,h=>by
  obtain⟨y,ys,rfl,h1,h2⟩:=ha.inv_cons
  obtain⟨z,zs,rfl,f,g⟩:=hb.inv_cons
  simp only[iQ]at h
  simp only[Sim.cellsEq]
  split at h
  rename_i he;rw[Ba h1 f he];exact pX h2 g h
  rename_i he;rw[Ba h1 f he];exact h
  cases h
 |[],_::_,_,_,_,_,_,_,h=>by cases h
 |[],[],_::_,_,_,_,_,_,h=>by cases h
 |_::_,[],_,_,_,_,_,_,h=>by cases h
 |_::_,_::_,[],_,_,_,_,_,h=>by cases h
theorem Kh {p:Bool} {cs:aA PV} {y:AV} (h:RC p (.agg cs) y):∃cs',y=.agg cs'/\LR (RC false) cs cs':=by
 cases h with|agg a b=>exact⟨_,rfl,a,b⟩
theorem Gv {agg:Bool} {ks:aA CK} {a b:PV} {a' b':AV} (c:RC false a a') (hb:RC false b b') {q:Bool} (h:pS agg ks a b=some q):Sim.keyEq agg ks a' b'=some q:=by
 unfold pS at h;unfold Sim.keyEq;cases agg with
 |true=>
  simp only[qQ2]at h ⊢;split at h;obtain⟨x,rfl,h1⟩:=Kh c;obtain⟨y,rfl,h2⟩:=Kh hb;simp only;split at h;rename_i hc;rw[pW2 ⟨by rw[<-h1.1];exact hc.1,by rw[<-h2.1];exact hc.2⟩];exact pX h1 h2 h;cases h;cases h
 |false=>
  simp only[qA2,qX2]at h ⊢;exact pX (.cons c .nil) (.cons hb .nil) h
theorem ER.nil:ER [] []:=⟨rfl,fun j x y h=>by simp at h⟩
theorem ER.inv_cons {x:PV×PV} {es:aA (PV×PV)} {es':aA (AV×AV)} (h:ER (x::es) es'):∃y t,es'=y::t/\RC false x.1 y.1/\RC false x.2 y.2/\ER es t:=by
 cases es' with
 |nil=>have:=h.1;simp at this
 |cons y t=>exact⟨y,t,rfl,(h.2 0 x y rfl rfl).1,(h.2 0 x y rfl rfl).2,by have:=h.1;simpa using this,fun j a b c hb=>h.2 (j+1) a b (by simpa using c) (by simpa using hb)⟩
theorem vJ {agg:Bool} {ks:aA CK} {k:PV} {k':AV} (hk:RC false k k'):∀{es:aA (PV×PV)} {es':aA (AV×AV)} {i:Nat} {o:aB (Nat×PV)},ER es es'->rJ agg ks k es i=some o->
  ∃o',Sim.findKey agg ks k' es' i=some o'/\((o=none/\o'=none)\/∃j x y,o=some (j,x)/\o'=some (j,y)/\RC false x y)
 |[],es',i,o,he,h=>by
  have:es'=[]:=by have:=he.1;simpa using this.symm
  subst this
  simp only[rJ,pV2]at h
  exact⟨none,rfl,.inl ⟨h.symm,rfl⟩⟩
 |(a,x)::es,es',i,o,he,h=>by
  obtain⟨⟨b,y⟩,t,rfl,h1,h2,d⟩:=he.inv_cons
  simp only[rJ]at h
  simp only[Sim.findKey]
  split at h
  rename_i c
  rw[Gv hk h1 c]
  cases h
  exact⟨_,rfl,.inr ⟨i,x,y,rfl,rfl,h2⟩⟩
  rename_i c
  rw[Gv hk h1 c]
  exact vJ hk d h
  cases h
theorem lP {agg:Bool} {ks:aA CK} {k:PV} {k':AV} (hk:RC false k k') (h:sY agg ks k=true):Sim.keyOK agg ks k'=true:=by
 unfold sY at h;split at h;obtain⟨cs',rfl,hl⟩:=Kh hk;simp only[pN2,rM2]at h;simp[Sim.keyOK,<-hl.1,h.2];cases hk;simp only[qH2]at h;subst h;rfl;cases h
theorem Bb {x:PV} {y:AV} (h:RV C x y):∀{d:Nat},cY d x=true->RC false x y:=by
 induction h with
 |cl h=>intro d _;exact h
 |fn h1 h2 v1 v2 i1 i2=>
  intro d hd;cases d with
  |zero=>simp[cY]at hd
  |succ d=>
   simp only[cY,pN2,pX2]at hd;exact .fn h1 h2 (fun j x y a b=>i1 j x y a b (hd.1 x (pZ2 a))) (fun j x y a b=>i2 j x y a b (hd.2 x (pZ2 a)))
 |agg hl hc ih=>
  intro d hd;cases d with
  |zero=>simp[cY]at hd
  |succ d=>
   simp only[cY,pX2]at hd;exact .agg hl (fun j x y a b=>ih j x y a b (hd x (pZ2 a)))
 |tup hl hc ih=>
  intro d hd;cases d with
  |zero=>simp[cY]at hd
  |succ d=>
   simp only[cY,pX2]at hd;exact .tup hl (fun j x y a b=>ih j x y a b (hd x (pZ2 a)))
 |_=>intro d hd;cases d<;>simp[cY]at hd
theorem Pz {agg ok:Bool} {ks:aA CK} {zero:AV} (g:cG C n h lim s) (D:LR (RV C) xs ys) (hk:dB (.lookup agg ks zero ok) xs h n K=some r):dZ C n h lim s (.lookup agg ks zero ok) ys K r:=by
 rcases xs with _|⟨m,_|⟨k,_|⟨x2,t⟩⟩⟩
 exact aD hk;exact aD hk;obtain⟨w,_,rfl,h1,h2⟩:=D.inv_cons;obtain⟨E,_,rfl,A,B⟩:=h2.inv_cons;rw[B.inv_nil];cases hz:zero with
 |v z=>
  subst hz
  have key:∀(es:aA (PV×PV)) (es':aA (AV×AV)),ER es es'->Sim.entsOf (Sim.look s.h) w=some es'->
    (bif cY 2 k then(bif ok then bU (mK agg ks (.v z) k es) (fun r=>K (.tup [r.1,.v (.bool r.2)]) h n)else bU (pT agg ks (.v z) k es) fun r=>K r h n)else none)=some r->dZ C n h lim s (.lookup agg ks (.v z) ok) [w,E] K r:=by
   intro es es' he f hk;cases hcl:cY 2 k with
   |false=>rw[hcl]at hk;exact aD hk
   |true=>
   rw[hcl,qD2]at hk;have b:=Bb A hcl;cases ok with
   |true=>
    simp only[qD2,bO,pM2,mK]at hk;obtain⟨q,d,hk⟩:=hk;split at d;rename_i c;simp only[pP2]at d;obtain⟨o,p,rfl⟩:=d;obtain⟨o',i,u⟩:=vJ b he p;rcases u with⟨rfl,rfl⟩|⟨j,x,y,rfl,rfl,hxy⟩
    refine bH g (y:=.tup [.v z,.v (.bool false)]) ?_ ?_ hk;simp[doOp,lP b c,f,i];exact .tup rfl (LR.cons (.cl (.v z)) (.cons (.cl (.v _)) .nil)).2;refine bH g (y:=.tup [y,.v (.bool true)]) ?_ ?_ hk;simp[doOp,lP b c,f,i];exact .tup rfl (LR.cons (.cl hxy) (.cons (.cl (.v _)) .nil)).2;cases d
   |false=>
    simp only[qS2,bO,pM2,pT]at hk;obtain⟨q,d,hk⟩:=hk;split at d;rename_i c;simp only[pP2]at d;obtain⟨o,p,rfl⟩:=d;obtain⟨o',i,u⟩:=vJ b he p;rcases u with⟨rfl,rfl⟩|⟨j,x,y,rfl,rfl,hxy⟩
    refine bH g (y:=.v z) ?_ (.cl (.v z)) hk;simp[doOp,lP b c,f,i];refine bH g (y:=y) ?_ (.cl hxy) hk;simp[doOp,lP b c,f,i];cases d
  unfold dB at hk;simp only at hk;cases m with
  |im es=>
   obtain⟨es',rfl,he⟩:=gS1 h1;exact key es es' he rfl hk
  |map j=>
   simp only[eG,pM2]at hk;obtain⟨ob,hg,hk⟩:=hk;cases ob with
   |mp es=>
    obtain⟨id,ver,e,len,l,rfl⟩:=tD h1;obtain⟨_,es',f,he⟩:=Gt g hg l;exact key es es' he.er (by simp[Sim.entsOf,f]) hk
   |_=>exact aD hk
  |zm es=>
   rcases gT1 h1 with⟨id,es',rfl,l,he⟩|⟨rfl,rfl⟩
   exact key es es' he.er (by simp[Sim.entsOf,(g.hr.zr id _ l).1]) hk;exact key [] [] ⟨rfl,fun j x y a=>by simp at a⟩ rfl hk
  |_=>exact aD hk
 |_=>subst hz;exact aD hk
 exact aD hk
theorem gV1 {x:PV} {y:AV} (h:RV C x y) (hp:Ka x=true):RK x y:=by
 cases x with
 |agg cs=>
  obtain⟨cs',rfl,hl⟩:=lF h;exact .inr ⟨cs,cs',rfl,rfl,hl.plain hp⟩
 |_=>exact .inl (h.plain hp)
theorem Uu {agg:Bool} {ks:aA CK} (D:cG C n h lim s) (R:LR (RV C) xs ys) (hk:dB (.mapup agg ks) xs h n K=some r):dZ C n h lim s (.mapup agg ks) ys K r:=by
 rcases xs with _|⟨m,_|⟨k,_|⟨x,_|⟨x2,t⟩⟩⟩⟩
 exact aD hk;exact aD hk;exact aD hk;obtain⟨V,_,rfl,h1,h2⟩:=R.inv_cons;obtain⟨w,_,rfl,J,L⟩:=h2.inv_cons;obtain⟨y,_,rfl,M,N⟩:=L.inv_cons;rw[N.inv_nil];cases m with
 |map j=>
  have hk:hK h j (fun ob=>match ob with
   |.mp es=>bif Ka k&&Ka x then bU (xJ agg ks k x es) fun es=>fY h j (.mp es) fun h=>K .undef h n else none
   |_=>none)=some r:=hk
  simp only[eG,pM2]at hk;obtain⟨ob,hg,hk⟩:=hk;cases ob with
  |mp es=>
   by_cases g:(Ka k&&Ka x)=true;simp only[g,qD2,bO,pM2,xJ]at hk;simp only[pN2]at g;obtain⟨d,hp,hk⟩:=hk;have H:=dM _ _ _ _ _ hk;obtain⟨id,ver,e,len,z,rfl⟩:=tD h1;obtain⟨f,es',B,he⟩:=Gt D hg z;have F:=(D.hr.lt (by rw[hg];simp) z).2;have G:=gV1 J g.1;have S:=gV1 M g.2;have q:=G.rc;split at hp;rename_i u;simp only[pP2]at hp;obtain⟨o,P,rfl⟩:=hp;obtain⟨o',q1,q2⟩:=vJ q he.er P
   have fin:∀(d:aA (PV×PV)) (c:aA (AV×AV)),EM d c->K .undef (eF h j (.mp d)) n=some r->doOp (Sim.look s.h) lim s.n (.mapup agg ks) [.map id,w,y]=some {v:=.undef,up:=some (id,.map c)}->dZ C n h lim s (.mapup agg ks) [.map id,w,y] K r:=by
    intro d c E A hd;obtain⟨T,U⟩:=pV D (po':=.mp d) (ao:=.map c) hg z ⟨f,F,c,by rw[Sim.look_upd];simp[B],E⟩ rfl;exact⟨_,_,_,_,_,A,hd,.undef,T,.refl _,pQ2 _,U,fun O=>by cases O⟩
   rcases q2 with⟨rfl,rfl⟩|⟨i,x0,y0,rfl,rfl,hxy⟩
   refine fin _ (es'++[(w,y)]) ⟨by simp[he.1],fun i a b p hb=>?_⟩ H ?_;rw[rN2]at p hb;rw[<-he.1]at hb;split at p;rename_i hi;rw[pW2 hi]at hb;exact he.2 i a b p hb
   grind
   simp only[doOp,B];rw[pW2 ⟨f,lP q u⟩,q1];refine fin _ (es'.set i (w,y)) ⟨by simp[he.1],fun l a b p hb=>?_⟩ H ?_;rw[qK2]at p hb;split at p
   grind
   rename_i hi;rw[pT2 hi]at hb;exact he.2 l a b p hb;simp only[doOp,B];rw[pW2 ⟨f,lP q u⟩,q1];cases hp
   grind
  |_=>exact aD hk
 |_=>exact aD hk
 exact aD hk
theorem jQ1 {kd:Nat} (a:cG C n h lim s) (i:LR (RV C) xs ys) (hk:dB (.len kd) xs h n K=some r):dZ C n h lim s (.len kd) ys K r:=by
 rcases xs with _|⟨x,_|⟨x2,t⟩⟩
 exact aD hk;obtain⟨y,_,rfl,h1,h2⟩:=i.inv_cons;rw[h2.inv_nil];unfold dB at hk;simp only[bJ]at hk;split at hk;rename_i e rows;by_cases c:kd=0;subst c;simp only[rG2,qD2,bO,pS2]at hk;rcases Mz h1 with⟨rows',rfl,hr⟩|⟨rfl,rfl|rfl⟩
 exact bH a (by simp[doOp,<-hr.1]) (.cl (.v _)) hk;exact bH a rfl (.cl (.v _)) hk;exact bH a rfl (.cl (.v _)) hk
 grind
 rename_i k;by_cases c:kd=0;subst c;simp only[rG2,qD2,eG,pM2]at hk;obtain⟨ob,hg,hk⟩:=hk;cases ob with
 |lst ty e g rows=>
  simp only[bO,pS2]at hk;rcases gQ h1 with⟨id,ver,f,len,b,rfl⟩|⟨b,hy⟩
  obtain⟨_,_,hlen,_⟩:=iB a hg b;subst hlen;exact bH a rfl (.cl (.v _)) hk;have:=jI a hg b;subst this;rcases hy with rfl|rfl;exact bH a rfl (.cl (.v _)) hk;exact bH a rfl (.cl (.v _)) hk
 |lz ty e dp rows=>
  simp only[bO,pS2]at hk;rcases gQ h1 with⟨id,ver,f,len,b,rfl⟩|⟨b,hy⟩
  obtain⟨_,_,_,hlen,_⟩:=uO a hg b;subst hlen;exact bH a rfl (.cl (.v _)) hk;have:=tF a hg b;subst this;rcases hy with rfl|rfl;exact bH a rfl (.cl (.v _)) hk;exact bH a rfl (.cl (.v _)) hk
 |fl fs=>
  rcases gQ h1 with⟨id,ver,f,len,b,rfl⟩|⟨b,hy⟩
  obtain⟨_,_,hlen,_⟩:=Un a hg b;subst hlen;exact bH a rfl (.cl (.v _)) hk;exact(Uo a hg b).elim
 |_=>exact aD hk
 grind
 rename_i d e rows;by_cases c:kd=0;subst c;simp only[rG2,qD2,bO,pS2]at hk;rcases Ax (Aw h1)with(⟨rows',rfl,hr⟩|⟨rfl,rfl⟩)|⟨d',id,ver,ty,els,_,rfl,_,_,_⟩
 exact bH a (by simp[doOp,<-hr.1]) (.cl (.v _)) hk;exact bH a rfl (.cl (.v _)) hk;exact bH a rfl (.cl (.v _)) hk
 grind
 by_cases c:kd=0;subst c;rw[eQ h1];exact bH a rfl (.cl (.v _)) hk
 grind
 by_cases c:kd=1;subst c;rw[eQ h1];exact bH a rfl (.cl (.v _)) hk
 grind
 exact aD hk;exact aD hk
theorem jR1 {i:Nat} (b:cG C n h lim s) (d:LR (RV C) xs ys) (hk:dB (.ext i) xs h n K=some r):dZ C n h lim s (.ext i) ys K r:=by
 rcases xs with _|⟨x,_|⟨x2,t⟩⟩
 exact aD hk;obtain⟨y,_,rfl,h1,h2⟩:=d.inv_cons;rw[h2.inv_nil];cases x with
 |tup vs=>
  have hk:fX i vs (fun vs=>match vs with
   |v::_=>K v h n
   |[]=>none)=some r:=hk
  obtain⟨e,a⟩:=dL _ _ _ _ hk;obtain⟨cs',rfl,hl⟩:=Kf h1;cases hd:vs.drop i with
  |nil=>rw[hd]at a;exact aD a
  |cons c t=>
   rw[hd]at a;obtain⟨y,hy,hv⟩:=hl.get (tE hd);exact bH b (by simp[doOp,hy]) hv a
 |_=>exact aD hk
 exact aD hk
end
end Go.P
namespace Go.P
open Go.Sim (AV AO Hp eY upd St IC IX Ex dW CK Wf Out doOp)
theorem rP {α:Type}:∀(l:aA α) (o:Nat) (cs:aA α),o+cs.length<=l.length->Sim.setL l o cs=l.take o++cs++l.drop (o+cs.length)
 |[],o,cs,h=>by
  have h1:cs=[]:=by
   cases cs with
   |nil=>rfl
   |cons a as=>simp at h
  subst h1;simp[Sim.setL]
 |a::l,0,[],h=>by simp[Sim.setL]
 |a::l,0,c::cs,h=>by
  simp only[Sim.setL,List.set_cons_zero];rw[lO,rP l 0 cs (by simp at h ⊢;omega)];simp
 |a::l,o+1,cs,h=>by
  rw[lO,rP l o cs (by simp at h ⊢;omega)];simp[Nat.add_right_comm]
theorem tG (e:Nat):∀(m i:Nat) (cells xs:aA AV) (a:aA (aA AV)),cells.length=(i+m)*e->xs.length=m->a.length=m->
  (∀(j:Nat) (x:AV),xs[j]? =some x->∃cs,x.cells=some cs/\cs.length=e/\a[j]? =some cs)->
  Sim.fillParts cells ((List.range' i m).map fun i=>(i*e,e)) xs=some (cells.take (i*e)++a.flatten)
 |0,i,cells,xs,a,h1,h2,h3,h4=>by
  have g:xs=[]:=by simpa using h2
  have e2:a=[]:=by simpa using h3
  subst g;subst e2
  simp only[List.range'_zero,tJ2,Sim.fillParts,List.flatten_nil,sP2]
  rw[qV2 (by rw[h1];simp)]
 |m+1,i,cells,xs,a,h1,h2,h3,h4=>by
  match xs,a,h2,h3 with
  |x::xs,cs0::a,h2,h3=>
   obtain⟨cs,k,d,f⟩:=h4 0 x rfl
   simp at f
   subst f
   simp only[List.range'_succ,sC2,Sim.fillParts,k]
   have b:i*e+e<=cells.length:=by
    rw[h1];have:(i+1)*e<=(i+(m+1))*e:=qO2 _ (by omega);rw[rS2,Nat.one_mul]at this;exact this
   rw[pW2 ⟨d,b⟩];have hs:=rP cells (i*e) cs0 (by rw[d];exact b)
   have hlen:(Sim.setL cells (i*e) cs0).length=cells.length:=by
    rw[hs];simp[d];omega
   rw[tG e m (i+1) _ xs a (by rw[hlen,h1];congr 1;omega) (by simpa using h2) (by simpa using h3) (fun j x h=>by
    obtain⟨c,q1,q2,q3⟩:=h4 (j+1) x (by simpa using h);exact⟨c,q1,q2,by simpa using q3⟩)]
   congr 1;rw[hs,tH2,<-List.append_assoc];congr 1
   have hl:(cells.take (i*e)++cs0).length=(i+1)*e:=by
    simp[d,rS2];omega
   rw[List.take_append_of_le_length (by rw[hl];exact pQ2 _),qV2 (by rw[hl];exact pQ2 _)]
theorem Uv (e:Nat):∀(a:aA (aA AV)),(∀c∈a,c.length=e)->(List.range a.length).map (fun i=>(a.flatten.drop (i*e)).take e)=a
 |[],_=>rfl
 |c::a,h=>by
  have hc:=h c (by simp)
  have ih:=Uv e a (fun c hc=>h c (by simp[hc]))
  rw[rB2,List.range_succ_eq_map,sC2,List.map_map]
  simp only[tI2,rK2,tH2]
  rw[List.take_append_of_le_length (by omega),qV2 (by omega)]
  congr 1
  refine Eq.trans (List.map_congr_left fun i _=>?_) ih
  simp only[Function.comp]
  rw[rD2,rZ2,<-hc,<-sJ2,List.drop_left]
theorem xW (l:aA AV):∀(m:aA Nat),(m.flatMap fun _=>l).length=m.length*l.length
 |[]=>by simp
 |a::m=>by
  rw[List.flatMap_cons,rJ2,xW l m,rB2,rD2,rZ2]
section
variable {R:Type} {C:Cx} {n:Nat} {h:aQ} {lim:Nat} {s:Hp} {k:dW} {xs:List PV} {ys:List AV} {K:PV->aQ->Nat->Option R} {r:R}
theorem Uw (a b:Nat):a<=(bif Nat.blt a b then b else a)/\b<=(bif Nat.blt a b then b else a):=by
 by_cases h:a<b;have hb:Nat.blt a b=true:=by simpa using h
 rw[hb];simp only[qD2];omega;have hb:Nat.blt a b=false:=by cases hb:Nat.blt a b with|false=>rfl|true=>exact absurd (by simpa using hb) h
 rw[hb];simp only[qS2];omega
theorem Ux {x:PV} {y:AV} {d:Nat} {b:PV} (h:RV C x y) (hc:Ug x=some (d,b)):RZ C.z d b y:=by
 have pl:∀{x:PV},RV C x y->eO x=true->RC true x y:=fun a hp=>by
  have:=(LR.cons a .nil).plain (xs:=[_]) (by simpa using hp);exact this.head
 unfold Ug at hc;split at hc;cases hc;exact Aw h;rename_i a;cases hp:eO x with
 |true=>rw[hp]at hc;cases hc;exact RZ.of (pl h hp)
 |false=>rw[hp]at hc;cases hc
theorem Bc:∀{cs:aA PV} {cs':aA AV} {d:Nat} {ys:aA PV},LR (RV C) cs cs'->xK cs=some (d,ys)->LR (RZ C.z d) ys cs'
 |[],cs',d,ys,h,hc=>by
  rw[h.inv_nil];cases hc;exact .nil
 |x::xs,cs',d,ys,h,hc=>by
  obtain⟨y,e,rfl,h1,h2⟩:=h.inv_cons
  unfold xK at hc
  split at hc
  rename_i a f b xs' c e2
  cases hc
  have m:=Uw a b
  exact .cons (RZ.up m.1 (Ux h1 c)) ((Bc h2 e2).mono fun _ _ h=>RZ.up m.2 h)
  cases hc
theorem oQ1 {R:Type} (d:Nat) (K:Nat->aB R):fD d K=K d:=by
 unfold fD;split<;>rfl
theorem uP (e:Nat):∀(xs:aA PV) (K:Nat->aA (aA PV)->aB R) (r:R),xL e xs K=some r->∃dp rows,K dp rows=some r/\rows.length=xs.length/\
  ∀(j:Nat) (x:PV),xs[j]? =some x->∃cs,dV x=some cs/\∃d ys,xK cs=some (d,ys)/\ys.length=e/\d<=dp/\rows[j]? =some ys
 |[],K,r,h=>⟨0,[],h,rfl,fun j x a=>by simp at a⟩
 |x::xs,K,r,h=>by
  simp only[xL,jP,oQ1,pM2]at h
  obtain⟨cs,h1,h2⟩:=h
  split at h2
  rename_i d ys f
  cases hb:Nat.beq ys.length e with
  |false=>rw[hb]at h2;cases h2
  |true=>
   rw[hb,qD2]at h2
   obtain⟨dp,rows,g,i,k⟩:=uP e xs _ r h2
   have m:=Uw d dp
   refine⟨_,_,g,by simp[i],fun j l a=>?_⟩
   cases j with
   |zero=>simp at a;subst a;exact⟨cs,h1,d,ys,f,qF2 hb,m.1,rfl⟩
   |succ j=>
    simp at a
    obtain⟨cs',q1,c,b,q2,q3,q4,q5⟩:=k j l a
    exact⟨cs',q1,c,b,q2,q3,qT2 q4 m.2,by simpa using q5⟩
  cases h2
theorem Ki {ty:TypeId} {e len:Nat} {zero:aA Value} {parts:aA Nat} (J:cG C n h lim s) (o:LR (RV C) xs ys) (hk:dB (.buildSl ty e len zero parts) xs h n K=some r):dZ C n h lim s (.buildSl ty e len zero parts) ys K r:=by
 have hk:(bif Pr 0 parts&&(Nat.beq zero.length e&& !(fM ty))then(bif Nat.beq parts.length len then bif xs.all Uh then rK e xs fun rows=>bif Nat.beq rows.length len then K (.own n) ((n,.lst ty e false rows)::h) (n+1)else none else xL e xs fun dp rows=>bif Nat.beq rows.length len then K (.own n) ((n,.lz ty e dp rows)::h) (n+1)else none else none)else none)=some r:=by
  rcases xs with _|⟨a,_|⟨b,_|⟨c,t⟩⟩⟩<;>exact hk
 by_cases hc:(Pr 0 parts&&(Nat.beq zero.length e&& !(fM ty)))=true;rw[hc,qD2]at hk;simp only[pN2,bJ,pU2]at hc hk;obtain⟨c1,c2,p⟩:=hc;have P:zD ty=ty:=by simp only[qH2]at p;simp[zD,p]
 have hfx:fM ty=false:=by simpa using p
 by_cases c3:parts.length=len;rw[qP2 c3,qD2]at hk
 have M:∃(po:fP) (rows:aA (aA PV)) (Q:PV->AV->Prop),K (.own n) ((n,po)::h) (n+1)=some r/\rows.length=len/\rows.length=xs.length/\
   (∀(j:Nat) (x:PV),xs[j]? =some x->∃cs,dV x=some cs/\∃r,rows[j]? =some r/\r.length=e/\∀cs',LR (RV C) cs cs'->LR Q r cs')/\
   ∀f:aA (aA AV),rows.length=f.length->(∀(i:Nat) (r:aA PV) (r':aA AV),rows[i]? =some r->f[i]? =some r'->LR Q r r')->
    iH (ext C n (.atp s.n 0 e len)) (Sim.look (.ob s.n (.arr false ty e 0 f)::s.h)) lim (s.n+1) po (.atp s.n 0 e len):=by
  cases hpl:xs.all Uh with
  |true=>
   rw[hpl,qD2]at hk;obtain⟨rows,m,E,F⟩:=rO e xs _ r hk;by_cases c4:rows.length=len;rw[qP2 c4,qD2]at m;refine⟨_,rows,RC true,m,c4,E,fun j x o=>?_,fun f hl u=>?_⟩;obtain⟨cs,q1,q2,q3,q4⟩:=F j x o;exact⟨cs,q1,cs,q4,q2,fun cs' h=>h.plain q3⟩;exact⟨J.lim,by omega,rfl,c4.symm,f,by rw[dT,pW2 rfl,P],by rw[qV2 (by rw[hl];exact pQ2 _)];exact⟨hl,u⟩,by rw[hl];exact pQ2 _,fun _=>hl.symm⟩;rw[qW2 c4]at m;exact aD m
  |false=>
   rw[hpl,qS2]at hk;obtain⟨dp,rows,m,E,F⟩:=uP e xs _ r hk;by_cases c4:rows.length=len;rw[qP2 c4,qD2]at m;refine⟨_,rows,RZ C.z dp,m,c4,E,fun j x o=>?_,fun f hl u=>?_⟩;obtain⟨cs,q1,d,U,q2,q3,q4,q5⟩:=F j x o;exact⟨cs,q1,U,q5,q3,fun cs' h=>(Bc h q2).mono fun _ _ h=>RZ.up q4 h⟩;exact⟨J.lim,by omega,rfl,c4.symm,hfx,f,by rw[dT,pW2 rfl],hl,u⟩;rw[qW2 c4]at m;exact aD m
 obtain⟨po,rows,Q,m,c4,E,F,R⟩:=M;have hp:=Au 0 parts c1;rw[c3]at hp;subst hp
 have D:∀(j:Nat) (x:AV),ys[j]? =some x->∃cs,x.cells=some cs/\cs.length=e/\∃r,rows[j]? =some r/\LR Q r cs:=by
  intro j y hy;have A:j<xs.length:=by rw[o.1];exact(pO2.1 hy).1
  obtain⟨cs,q1,G,q2,q3,q4⟩:=F j xs[j] (by simp);obtain⟨cs',p1,p2⟩:=nT (o.2 j xs[j] y (by simp) hy) q1;have:=q4 cs' p2;exact⟨cs',p1,by rw[<-this.1];exact q3,G,q2,this⟩
 have q:∃f:aA (aA AV),f.length=ys.length/\∀(j:Nat) (x:AV),ys[j]? =some x->∃cs,x.cells=some cs/\cs.length=e/\f[j]? =some cs/\∃r,rows[j]? =some r/\LR Q r cs:=by
  refine⟨ys.map fun y=>(y.cells).getD [],by simp,fun j y hy=>?_⟩;obtain⟨cs,p1,p2,p3⟩:=D j y hy;exact⟨cs,p1,p2,by simp[hy,p1],p3⟩
 obtain⟨f,H,T⟩:=q;have g:ys.length=len:=by rw[<-o.1,<-E,c4]
 have W:(Sim.zeroRow zero).length=e:=by simp[Sim.zeroRow,c2]
 have L:((List.range len).flatMap fun _=>Sim.zeroRow zero).length=len*e:=by
  rw[xW,W,List.length_range]
 have l:=tG e len 0 ((List.range len).flatMap fun _=>Sim.zeroRow zero) ys f (by rw[L];simp) g (by rw[H,g]) (fun j x o=>by
  obtain⟨cs,p1,p2,p3,_⟩:=T j x o;exact⟨cs,p1,p2,p3⟩)
 simp only[tI2,List.take_zero,List.nil_append]at l
 have w:∀c∈f,c.length=e:=by
  intro c hc;obtain⟨j,V⟩:=qG2.1 hc;have A:j<ys.length:=by rw[<-H];exact(pO2.1 V).1
  obtain⟨cs,p1,p2,p3,_⟩:=T j ys[j] (by simp);rw[V]at p3;cases p3;exact p2
 have k:=Uv e f w;rw[H,g]at k
 have u:∀(j:Nat) (G:aA PV) (S:aA AV),rows[j]? =some G->f[j]? =some S->LR Q G S:=by
  intro j G S O B;have A:j<ys.length:=by rw[<-H];exact(pO2.1 B).1
  obtain⟨cs,p1,p2,p3,r2,p4,p5⟩:=T j ys[j] (by simp);rw[B]at p3;cases p3;rw[O]at p4;cases p4;exact p5
 have N:=iV J (.atp s.n 0 e len);obtain⟨X,Y,Z⟩:=nU J (po:=po) (ao:=.arr false ty e 0 f) (ver:=0) (e:=e) (len:=len) (R f (by rw[c4,H,g]) u);refine⟨_,_,_,_,{v:=.sl e s.n 0 0 len none,new:=some (.arr false ty e 0 f)},m,?_,.own (lG C n _),X,N,by omega,Y,fun _=>Z⟩
 have:doOp (Sim.look s.h) lim s.n (.buildSl ty e len zero (List.range' 0 len)) ys=(Sim.fillParts ((List.range len).flatMap fun _=>Sim.zeroRow zero) ((List.range' 0 len).map fun i=>(i*e,e)) ys).map fun cs=>
  {v:=.sl e s.n 0 0 len none,new:=some (.arr false ty e 0 ((List.range len).map fun i=>(cs.drop (i*e)).take e))}:=by
  rcases ys with _|⟨a,_|⟨b,_|⟨c,t⟩⟩⟩<;>rfl
 rw[this,l];simp only[qR2];rw[k];rw[qW2 c3]at hk;exact aD hk;simp only[tA2]at hc;rw[hc]at hk;exact aD hk
theorem xX {i:Int}:∀{m:Nat} {K:Nat->aB R} {r:R},Gm i m K=some r->∃j,j<m/\i=(j:Int)/\K j=some r
 |0,K,r,h=>by unfold Gm at h;exact aD h
 |m+1,K,r,h=>by
  unfold Gm at h
  rw[mJ]at h
  split at h
  rename_i e;exact⟨m,by omega,by simpa using e,h⟩
  obtain⟨j,h1,h2,a⟩:=xX h;exact⟨j,by omega,h2,a⟩
theorem Zw {len esz:Nat} (l:cG C n h lim s) (m:LR (RV C) xs ys) (hk:dB (.iadA len esz) xs h n K=some r):dZ C n h lim s (.iadA len esz) ys K r:=by
 rcases xs with _|⟨p,_|⟨i,_|⟨x2,t⟩⟩⟩
 exact aD hk;exact aD hk;obtain⟨u,_,rfl,h1,h2⟩:=m.inv_cons;obtain⟨w,_,rfl,d,f⟩:=h2.inv_cons;rw[f.inv_nil];unfold dB at hk;simp only at hk;split at hk;rename_i i;split at hk;rename_i k o;obtain⟨j,q,a,b⟩:=xX hk;clear hk;subst a;rw[eQ d];obtain⟨id,ver,e,c,g,rfl⟩:=iW h1;refine bH (v:=.ref k (o+j*esz)) (y:=.ptr id ver 0 (o+j*esz)) l ?_ (.ref g) b;simp only[doOp,Sim.intOf];rw[pW2 ⟨by omega,by omega⟩];simp;exact aD hk;exact aD hk;exact aD hk
theorem Gw (g:cG C n h lim s) (j:LR (RV C) xs ys) (hk:dB k xs h n K=some r):dZ C n h lim s k ys K r:=by
 cases k with
 |mov=>exact jH1 g j hk
 |nilc=>exact Zs g j hk
 |box ty size=>exact jI1 g j hk
 |alloc ty zero=>exact Ul g j hk
 |build zero parts=>exact Um g j hk
 |buildSl ty e len zero parts=>exact Ki g j hk
 |loadS=>exact Up g j hk
 |loadA m=>exact Uq g j hk
 |store m=>exact Ur g j hk
 |fad off=>exact jJ1 g j hk
 |iad e=>exact jK1 g j hk
 |iadA len esz=>exact Zw g j hk
 |idxStr=>exact Px g j hk
 |idxA len e agg=>exact Zt g j hk
 |bin op=>exact jL1 g j hk
 |eqB neg=>exact jM1 g j hk
 |eqA neg ks=>exact jN1 g j hk
 |un op=>exact oP1 g j hk
 |convI k=>exact Us g j hk
 |s2b t=>exact jO1 g j hk
 |mkfn f m=>exact Zu g j hk
 |mkmap=>exact Ut g j hk
 |mksl ty e b zero=>exact Zv g j hk
 |slc e lo hi mx=>exact jP1 g j hk
 |lookup agg ks zero ok=>exact Pz g j hk
 |mapup agg ks=>exact Uu g j hk
 |len kd=>exact jQ1 g j hk
 |ext i=>exact jR1 g j hk
 |_=>rcases xs with _|⟨a,_|⟨b,_|⟨c,_|⟨d,t⟩⟩⟩⟩<;>exact aD hk
end
end Go.P
namespace Go.P
open Go.Sim (AV AO Hp eY upd St IC IX Ex dW CK Wf Out doOp gH Foot foot exec runOps cX wanted put fG)
def gR:dW->Bool
 |.callF _|.callV=>true
 |_=>false
def kI (N:FuncId->Bool) (dr:Nat):dW->Nat
 |.len kd=>bif Nat.beq kd 2 then 1 else 0
 |.loadS|.loadA _|.lookup .. |.slc .. |.b2s=>1
 |.box .. |.alloc .. |.buildSl .. |.mkmap|.mksl .. =>2
 |.callF f=>if N f then 4 else 3
 |.callV=>if dr=4 then 4 else 3
 |.store _|.mapup .. |.append .. |.copy _|.clear .. =>5
 |_=>0
inductive Tr (T:gH) (N:FuncId->Bool) (dr lim:Nat):List Sim.Op1->St->List Foot->St->Prop
 |nil {σ:St}:Tr T N dr lim [] σ [] σ
 |skip {o:Sim.Op1} {os:List Sim.Op1} {σ τ:St} {fs:List Foot} (hw:wanted σ.t o.guard=false) (h:Tr T N dr lim os {t:=put σ.t o.dst .undef,s:=σ.s} fs τ):Tr T N dr lim (o::os) σ ({}::fs) τ
 |op {o:Sim.Op1} {os:List Sim.Op1} {σ τ:St} {fs:List Foot} {xs:List AV} {out:Out} (hw:wanted σ.t o.guard=true) (he:Sim.evs σ.t o.xs=some xs) (hc:gR o.k=false)
   (hd:doOp (Sim.look σ.s.h) lim σ.s.n o.k xs=some out) (h:Tr T N dr lim os {t:=put σ.t o.dst out.v,s:=out.apply σ.s} fs τ):
   Tr T N dr lim (o::os) σ ({foot T o.k xs with al:=List.range' σ.s.n ((out.apply σ.s).n-σ.s.n)}::fs) τ
 |call {o:Sim.Op1} {os:List Sim.Op1} {σ τ:St} {fs:List Foot} {xs:List AV} {v:AV} (hw:wanted σ.t o.guard=true) (he:Sim.evs σ.t o.xs=some xs) (hc:gR o.k=true) (hk:3<=kI N dr o.k) (hf:foot T o.k xs={all:=1})
   (hs:∃D,∀d,D<=d->∀m,Sim.step T (exec T d) lim o.k xs {h:=σ.s.h,n:=m}=some (v,{h:=σ.s.h,n:=m})) (h:Tr T N dr lim os {t:=put σ.t o.dst v,s:=σ.s} fs τ):
   Tr T N dr lim (o::os) σ ({all:=1}::fs) τ
 |ncall {o:Sim.Op1} {os:List Sim.Op1} {σ τ:St} {fs:List Foot} {xs:List AV} {v:AV} {s':Hp} (hw:wanted σ.t o.guard=true) (he:Sim.evs σ.t o.xs=some xs) (hf:(foot T o.k xs).all=2) (hk:dr≠0->kI N dr o.k=4)
   (hs:∃D,∀d,D<=d->Sim.step T (exec T d) lim o.k xs σ.s=some (v,s')) (h:Tr T N dr lim os {t:=put σ.t o.dst v,s:=s'} fs τ):
   Tr T N dr lim (o::os) σ ({foot T o.k xs with al:=List.range' σ.s.n (s'.n-σ.s.n)}::fs) τ
section
variable {T:gH} {N:FuncId->Bool} {dr lim:Nat}
theorem Tr.append {as a:aA Sim.Op1} {σ τ υ:St} {fs b:aA Foot} (h:Tr T N dr lim as σ fs τ) (k:Tr T N dr lim a τ b υ):Tr T N dr lim (as++a) σ (fs++b) υ:=by
 induction h with
 |nil=>exact k
 |skip hw h ih=>exact .skip hw (ih k)
 |op hw he hc hd h ih=>exact .op hw he hc hd (ih k)
 |call hw he hc hk hf hs h ih=>exact .call hw he hc hk hf hs (ih k)
 |ncall hw he hf hk hs h ih=>exact .ncall hw he hf hk hs (ih k)
theorem Na {ex:Nat->Bool->IC->St->aB (Ex×St)} {k:dW} {xs:aA AV} {s:Hp} {out:Out} (hc:gR k=false) (hd:doOp (Sim.look s.h) lim s.n k xs=some out):Sim.step T ex lim k xs s=some (out.v,out.apply s):=by
 unfold Sim.step;split;simp[gR]at hc;simp[gR]at hc;rw[hd]
theorem Tr.run {os:aA Sim.Op1} {σ τ:St} {fs:aA Foot} (h:Tr T N dr lim os σ fs τ):∃D,∀d,D<=d->runOps T (exec T d) lim os σ=some τ:=by
 induction h with
 |nil=>exact⟨0,fun d _=>rfl⟩
 |skip hw h ih=>
  obtain⟨D,a⟩:=ih;refine⟨D,fun d hd=>?_⟩;simp only[runOps,hw];exact a d hd
 |op hw he hc hd h ih=>
  obtain⟨D,a⟩:=ih;refine⟨D,fun d c=>?_⟩;simp only[runOps,hw,qQ2,he,Na hc hd];exact a d c
 |@ncall o os σ τ fs xs v s' hw he hf hk hs h ih=>
  obtain⟨D,a⟩:=ih;obtain⟨D2,b⟩:=hs;refine⟨max D D2,fun d hd=>?_⟩;simp only[runOps,hw,qQ2,he,b d (by omega)];exact a d (by omega)
 |@call o os σ τ fs xs v hw he hc hk hf hs h ih=>
  obtain⟨D,a⟩:=ih;obtain⟨D2,b⟩:=hs;refine⟨max D D2,fun d hd=>?_⟩;simp only[runOps,hw,qQ2,he];have:=b d (by omega) σ.s.n;rw[show({h:=σ.s.h,n:=σ.s.n}:Hp)=σ.s from rfl]at this;rw[this];exact a d (by omega)
def lH (c:Nat) (f:Foot):Prop:=
 f={}\/match c with
  |0=>f={}
  |1=>f.wr=[]/\f.al=[]/\f.all=0
  |2=>f.rd=[]/\f.wr=[]/\f.all=0
  |3=>f={all:=1}
  |5=>f.all=0
  |_=>True
def eR (i j:Nat):Bool:=
 bif Nat.beq i 0 then !Nat.beq j 4 else bif Nat.beq j 0 then !Nat.beq i 4 else
  (Nat.ble i 3&&Nat.ble j 3&& !(Nat.beq i 3&&Nat.beq j 3)&& !(Nat.beq i 2&&(Nat.beq j 3||Nat.beq j 1)))||(Nat.beq i 5&&Nat.beq j 2)
def iX (i j:Nat):Bool:=Nat.beq i 0||Nat.beq j 0||eR i j
theorem Kj {i j:Nat} {f g:Foot} (hi:i<=5) (b:j<=5) (h:eR i j=true) (hf:lH i f) (hg:lH j g):Sim.compat0 f g=true:=by
 unfold lH at hf hg;have k:∀g:Foot,g.all<=1->Sim.compat0 {} g=true:=fun g hg=>by simp[Sim.compat0,hg]
 have d:∀f:Foot,f.all<=1->Sim.compat0 f {}=true:=fun f hf=>by simp[Sim.compat0,hf]
 have e:i≠4:=by rintro rfl;(match j,b,h with|0,_,h|1,_,h|2,_,h|3,_,h|4,_,h|5,_,h=>simp[eR]at h)
 have a:j≠4:=by rintro rfl;(match i,hi,h with|0,_,h|1,_,h|2,_,h|3,_,h|4,_,h|5,_,h=>simp[eR]at h)
 have a1:∀{c:Nat} {f:Foot},c<=5->c≠4->(f={}\/match c with
  |0=>f={}
  |1=>f.wr=[]/\f.al=[]/\f.all=0
  |2=>f.rd=[]/\f.wr=[]/\f.all=0
  |3=>f={all:=1}
  |5=>f.all=0
  |_=>True)->f.all<=1:=by grind
 have b1:=a1 hi e hf;have b2:=a1 b a hg;rcases hf with rfl|hf;exact k g b2;rcases hg with rfl|hg;exact d f b1
 have fin:f.wr=[]->g.wr=[]->f.al=[]\/(g.rd=[])->f.all+g.all<=1->Sim.compat0 f g=true:=by
  intro q1 q2 q3 q4;rcases q3 with q3|q3<;>simp[Sim.compat0,q1,q2,q3,q4]
 match i,hi,e,h,hf with
 |0,_,_,_,hf=>rw[hf];exact k g b2
 |1,_,_,h,hf=>
  obtain⟨p1,p2,p3⟩:=hf
  match j,b,a,h,hg with
  |0,_,_,_,hg=>rw[hg];exact d f b1
  |1,_,_,_,hg=>exact fin p1 hg.1 (.inl p2) (by rw[p3,hg.2.2];simp)
  |2,_,_,_,hg=>exact fin p1 hg.2.1 (.inl p2) (by rw[p3,hg.2.2];simp)
  |3,_,_,_,hg=>exact fin p1 (by rw[hg]) (.inl p2) (by rw[p3,hg];simp)
  |4,_,h4,_,_=>exact absurd rfl h4
  |5,_,_,h,_=>simp[eR]at h
 |2,_,_,h,hf=>
  obtain⟨p1,p2,p3⟩:=hf
  match j,b,a,h,hg with
  |0,_,_,_,hg=>rw[hg];exact d f b1
  |1,_,_,h,_=>simp[eR]at h
  |2,_,_,_,hg=>exact fin p2 hg.2.1 (.inr hg.1) (by rw[p3,hg.2.2];simp)
  |3,_,_,h,_=>simp[eR]at h
  |4,_,h4,_,_=>exact absurd rfl h4
  |5,_,_,h,_=>simp[eR]at h
 |3,_,_,h,hf=>
  match j,b,a,h,hg with
  |0,_,_,_,hg=>rw[hg];exact d f b1
  |1,_,_,_,hg=>exact fin (by rw[hf]) hg.1 (.inl (by rw[hf])) (by rw[hf,hg.2.2];simp)
  |2,_,_,_,hg=>exact fin (by rw[hf]) hg.2.1 (.inl (by rw[hf])) (by rw[hf,hg.2.2];simp)
  |3,_,_,h,_=>simp[eR]at h
  |4,_,h4,_,_=>exact absurd rfl h4
  |5,_,_,h,_=>simp[eR]at h
 |4,_,h1,_,_=>exact absurd rfl h1
 |5,_,_,h,hf=>
  match j,b,a,h,hg with
  |0,_,_,_,hg=>rw[hg];exact d f b1
  |1,_,_,h,_=>simp[eR]at h
  |2,_,_,_,hg=>
   obtain⟨p1,p2,p3⟩:=hg;have hf:f.all=0:=hf;simp[Sim.compat0,p1,p2,p3,hf]
  |3,_,_,h,_=>simp[eR]at h
  |4,_,h4,_,_=>exact absurd rfl h4
  |5,_,_,h,_=>simp[eR]at h
theorem Bd {i j:Nat} {f g:Foot} (hi:i<=5) (a:j<=5) (h:iX i j=true) (hf:lH i f) (hg:lH j g):Sim.compat f g=true:=by
 simp only[iX,qC2]at h;rcases h with(h|h)|h;have:=qF2 h;subst this;rcases hf with rfl|hf;rfl;have hf:f={}:=hf;subst hf;rfl;have:=qF2 h;subst this;have hg:g={}:=by rcases hg with hg|hg<;>exact hg
 subst hg;simp[Sim.compat,Sim.Foot.isE];simp[Sim.compat,Kj hi a h hf hg]
theorem nV (N:FuncId->Bool) (dr:Nat) (k:dW):kI N dr k<=5:=by
 cases k
 case len kd=>simp only[kI];cases Nat.beq kd 2<;>simp
 all_goals simp[kI]<;>split<;>omega
theorem rQ {N:FuncId->Bool} {dr:Nat} {k:dW} (h:gR k=true):kI N dr k=3\/kI N dr k=4:=by
 cases k<;>simp[gR]at h<;>simp only[kI]<;>split<;>simp
theorem gW1 {L:Nat->aB AO} {n:Nat} {k:dW} {xs:aA AV} {out:Out} (h:doOp L lim n k xs=some out) (hk:kI N dr k<=1):out.new=none:=by
 have hc:∀{o:aB Out} {P:Prop},o=some out->(∀o',o=some o'->o'.new=none)->out.new=none:=fun h1 h2=>h2 _ h1;unfold doOp at h;split at h
 all_goals first|(simp[kI]at hk;done)|(simp only[kI]at hk;split at hk<;>omega)|skip
 all_goals (repeat' split at h)
 all_goals first|(cases h;done)|(cases h;rfl)|(simp only[pP2]at h;obtain⟨_,_,rfl⟩:=h;rfl)|skip
theorem nW {s:Hp} {out:Out} (h:out.new=none):List.range' s.n ((out.apply s).n-s.n)=[]:=by
 unfold Out.apply;rw[h];simp
end
end Go.P
namespace Go.P
open Go.Sim (AV AO Hp eY upd St IC IX Ex dW CK Wf Out doOp gH Foot foot exec runOps cX wanted put fG)
section
variable {T:gH} {N:FuncId->Bool} {dr lim:Nat}
theorem Nb {k:dW} {xs:aA AV} {s:Hp} {out:Out} (hc:gR k=false) (hd:doOp (Sim.look s.h) lim s.n k xs=some out):
  lH (kI N dr k) {foot T k xs with al:=List.range' s.n ((out.apply s).n-s.n)}:=by
 have d:kI N dr k<=1->List.range' s.n ((out.apply s).n-s.n)=[]:=fun h=>nW (gW1 hd h);cases k
 case len kd=>
  cases hk:Nat.beq kd 2 with
  |true=>
   have hl:=d (by simp[kI,hk]);rw[hl,show kI N dr (.len kd)=1 by simp[kI,hk]];refine .inr ⟨?_,rfl,?_⟩<;>(rcases xs with _|⟨a,_|⟨b,t⟩⟩<;>rfl)
  |false=>
   have h0:=d (by simp[kI,hk]);refine .inl ?_;rw[h0];rcases xs with _|⟨a,_|⟨b,t⟩⟩<;>simp[foot,hk]
 all_goals first|(simp[gR]at hc;done)|skip
 all_goals first
  |exact .inr trivial
  |(refine .inr ?_;rcases xs with _|⟨a,_|⟨b,_|⟨c,t⟩⟩⟩<;>rfl)
  |(have h0:=d (qJ2 1);refine .inl ?_;rw[h0];rfl)
  |(have h0:=d (pQ2 1);refine .inr ⟨?_,h0,?_⟩<;>(rcases xs with _|⟨a,_|⟨b,_|⟨c,t⟩⟩⟩<;>rfl))
  |exact .inr ⟨rfl,rfl,rfl⟩
theorem oG {c:Nat} (h:c=3\/c=4) (f:Foot) (hf:f={all:=1}):lH c f:=by
 subst hf;rcases h with rfl|rfl;exact .inr rfl;exact .inr trivial
theorem Tr.feet (a:dr≠0) {os:aA Sim.Op1} {σ τ:St} {fs:aA Foot} (h:Tr T N dr lim os σ fs τ):fs.length=os.length/\∀(i:Nat) (o:Sim.Op1) (f:Foot),os[i]? =some o->fs[i]? =some f->lH (kI N dr o.k) f:=by
 induction h with
 |nil=>exact⟨rfl,fun i o f h=>by simp at h⟩
 |skip hw h ih=>
  refine⟨by simp[ih.1],fun i o f h1 h2=>?_⟩;cases i with
  |zero=>simp at h1 h2;subst h1;subst h2;exact .inl rfl
  |succ i=>simp at h1 h2;exact ih.2 i o f h1 h2
 |op hw he hc hd h ih=>
  refine⟨by simp[ih.1],fun i o f h1 h2=>?_⟩;cases i with
  |zero=>simp at h1 h2;subst h1;subst h2;exact Nb hc hd
  |succ i=>simp at h1 h2;exact ih.2 i o f h1 h2
 |@call o os σ τ fs xs v hw he hc hk hf hs h ih=>
  refine⟨by simp[ih.1],fun i o' f h1 h2=>?_⟩;cases i with
  |zero=>
   simp at h1 h2;subst h1;subst h2;exact oG (rQ hc) _ rfl
  |succ i=>simp at h1 h2;exact ih.2 i o' f h1 h2
 |@ncall o os σ τ fs xs v s' hw he hf hk hs h ih=>
  refine⟨by simp[ih.1],fun i o' f h1 h2=>?_⟩;cases i with
  |zero=>
   simp at h1 h2;subst h1;subst h2;rw[hk a];exact .inr trivial
  |succ i=>simp at h1 h2;exact ih.2 i o' f h1 h2
theorem fW {f g:Foot} (h:Sim.compat0 f g=true):Sim.compat f g=true:=by simp[Sim.compat,h]
def Cw (ks before:aA Nat):Bool:=
 (List.range ks.length).all fun j=>(List.range j).all fun i=>(before.getD j 0).testBit i||iX (ks.getD i 4) (ks.getD j 4)
theorem xY {a:Nat} {ft:Nat->Foot}:∀{j:Nat},(∀i,i<j->a.testBit i=true\/(ft i).al=[])->Sim.unseen a j (fG ft j)=[]
 |0,_=>rfl
 |j+1,h=>by
  simp only[fG,Sim.unseen,sM2]
  rw[xY (fun i hi=>h i (by omega))]
  rcases h j (by omega)with h1|h1
  rw[pW2 h1];rfl
  rw[h1];simp
theorem rR {a:Nat} {f:Foot} {ft:Nat->Foot}:∀{j:Nat},(∀i,i<j->a.testBit i=true\/Sim.compat (ft i) f=true)->Sim.drawOK.okAgainst a f (fG ft j) j=true
 |0,_=>rfl
 |j+1,h=>by
  simp only[fG,Sim.drawOK.okAgainst,sM2,pN2,qC2]
  exact⟨h j (by omega),rR (fun i hi=>h i (by omega))⟩
theorem tH {before:aA Nat} {ft:Nat->Foot}:∀{m:Nat},(∀j,j<m->∀i,i<j->(before.getD j 0).testBit i=true\/Sim.compat (ft i) (ft j)=true)->Sim.drawOK before (fG ft m) m=true
 |0,_=>rfl
 |m+1,h=>by
  simp only[fG,Sim.drawOK,sM2,pN2]
  exact⟨rR (h m (by omega)),tH (fun j a=>h j (by omega))⟩
theorem Uy (h:aA eY):Sim.hide [] h=h:=rfl
theorem Tr.foot (F:dr≠0) {before ks:aA Nat}:∀{os:aA Sim.Op1} {σ τ:St} {fs:aA Foot},Tr T N dr lim os σ fs τ->∀(j:Nat) (ft:Nat->Foot),
  (∀(i:Nat),i<fs.length->fs[i]? =some (ft (j+i)))->(∀(i:Nat) (o:Sim.Op1),os[i]? =some o->ks[j+i]? =some (kI N dr o.k))->
  (∀(i l k k':Nat),i<l->ks[i]? =some k->ks[l]? =some k'->k'=3\/k'=4->(before.getD l 0).testBit i=true\/iX k k'=true)->(∀i k,i<j->ks[i]? =some k->lH k (ft i))->(∀i,i<j->∃k,ks[i]? =some k/\k<=5)->
  ∃D,∀d,D<=d->cX T (exec T d) lim before os j (fG ft j) σ=some (τ,fG ft (j+os.length)):=by
 intro os σ τ fs h
 induction h with
 |nil=>intro j ft _ _ _ _ _;exact⟨0,fun d _=>rfl⟩
 |@skip o os σ τ fs hw h ih=>
  intro j ft h1 h2 m p q;have f0:ft j={}:=by have:=h1 0 (by simp);simpa using this.symm
  obtain⟨D,r⟩:=ih (j+1) ft (fun i hi=>by have:=h1 (i+1) (by simp;omega);simpa[rE2,rZ2 1 i]using this) (fun i o y=>by have:=h2 (i+1) o (by simpa using y);simpa[rE2,rZ2 1 i]using this) m
   (fun i k hi hk=>by
    by_cases e:i=j;subst e;rw[f0];exact .inl rfl;exact p i k (by omega) hk)
   (fun i hi=>by
    by_cases e:i=j;subst e;exact⟨_,by have:=h2 0 o rfl;simpa using this,nV _ _ _⟩;exact q i (by omega))
  refine⟨D,fun d hd=>?_⟩;simp only[cX,hw];have:=r d hd;rw[fG,f0]at this;rw[rB2,show j+(os.length+1)=j+1+os.length by omega];exact this
 |@op o os σ τ fs xs out hw he hc hd h ih=>
  intro j ft h1 h2 m p q;have f0:ft j={Sim.foot T o.k xs with al:=List.range' σ.s.n ((out.apply σ.s).n-σ.s.n)}:=by have:=h1 0 (by simp);simpa using this.symm
  obtain⟨D,r⟩:=ih (j+1) ft (fun i hi=>by have:=h1 (i+1) (by simp;omega);simpa[rE2,rZ2 1 i]using this) (fun i o y=>by have:=h2 (i+1) o (by simpa using y);simpa[rE2,rZ2 1 i]using this) m
   (fun i k hi hk=>by
    by_cases e:i=j;subst e;have:=h2 0 o rfl;rw[sB2,hk]at this;cases this;rw[f0];exact Nb hc hd;exact p i k (by omega) hk)
   (fun i hi=>by
    by_cases e:i=j;subst e;exact⟨_,by have:=h2 0 o rfl;simpa using this,nV _ _ _⟩;exact q i (by omega))
  have C:(Sim.foot T o.k xs).all=0:=by
   cases hk:o.k<;>simp[hk,gR]at hc<;>(rcases xs with _|⟨a,_|⟨b,_|⟨c,t⟩⟩⟩<;>rfl)
  have z:¬(Sim.foot T o.k xs).all=1:=by omega
  have w:¬(Sim.foot T o.k xs).all=3:=by omega
  refine⟨D,fun d E=>?_⟩;simp only[cX,hw,qQ2,he];rw[pT2 z,pT2 w,Na hc hd];simp only;have:=r d E;rw[fG,f0]at this;rw[rB2,show j+(os.length+1)=j+1+os.length by omega];exact this
 |@ncall o os σ τ fs xs v s' hw he hf hk hs h ih=>
  intro j ft h1 h2 m p q;have f0:ft j={Sim.foot T o.k xs with al:=List.range' σ.s.n (s'.n-σ.s.n)}:=by have:=h1 0 (by simp);simpa using this.symm
  obtain⟨D,r⟩:=ih (j+1) ft (fun i hi=>by have:=h1 (i+1) (by simp;omega);simpa[rE2,rZ2 1 i]using this) (fun i o y=>by have:=h2 (i+1) o (by simpa using y);simpa[rE2,rZ2 1 i]using this) m
   (fun i k hi A=>by
    by_cases e:i=j;subst e;have:=h2 0 o rfl;rw[sB2,A]at this;cases this;rw[f0,hk F];exact .inr trivial;exact p i k (by omega) A)
   (fun i hi=>by
    by_cases e:i=j;subst e;exact⟨_,by have:=h2 0 o rfl;simpa using this,nV _ _ _⟩;exact q i (by omega))
  obtain⟨D2,u⟩:=hs;refine⟨max D D2,fun d hd=>?_⟩;simp only[cX,hw,qQ2,he];rw[pT2 (by rw[hf];omega),pT2 (by rw[hf];omega),u d (by omega)];simp only;have:=r d (by omega);rw[fG,f0]at this;rw[rB2,show j+(os.length+1)=j+1+os.length by omega];exact this
 |@call o os σ τ fs xs v hw he hc hk3 hf hs h ih=>
  intro j ft h1 h2 m p q;have f0:ft j={all:=1}:=by have:=h1 0 (by simp);simpa using this.symm
  have x:ks[j]? =some (kI N dr o.k):=by
   have:=h2 0 o rfl;simpa using this
  obtain⟨D,r⟩:=ih (j+1) ft (fun i hi=>by have:=h1 (i+1) (by simp;omega);simpa[rE2,rZ2 1 i]using this) (fun i o y=>by have:=h2 (i+1) o (by simpa using y);simpa[rE2,rZ2 1 i]using this) m
   (fun i k hi hk=>by
    by_cases e:i=j;subst e;rw[x]at hk;cases hk;rw[f0];exact oG (rQ hc) _ rfl;exact p i k (by omega) hk)
   (fun i hi=>by
    by_cases e:i=j;subst e;exact⟨_,x,nV _ _ _⟩;exact q i (by omega))
  obtain⟨D2,u⟩:=hs
  have H:Sim.unseen (before.getD j 0) j (fG ft j)=[]:=by
   refine xY (fun i hi=>?_);obtain⟨k,hk,B⟩:=q i hi;rcases m i j k _ hi hk x (rQ hc)with g|g;exact .inl g;right;have f:=p i k hi hk
   have G:iX k 3=true:=by
    rcases rQ (N:=N) (dr:=dr) hc with e|e;rw[e]at g;exact g;rw[e]at g;(match k,B,g with|0,_,_=>rfl|1,_,h|2,_,h|3,_,h|4,_,h|5,_,h=>simp[iX,eR]at h)
   rcases f with f|f;rw[f]
   match k,B,G,f with
   |0,_,_,f=>rw[f]
   |1,_,_,f=>exact f.2.1
   |2,_,g,_=>simp[iX,eR]at g
   |3,_,_,f=>rw[f]
   |4,_,g,_=>simp[iX,eR]at g
   |5,_,g,_=>simp[iX,eR]at g
  refine⟨max D D2,fun d hd=>?_⟩;simp only[cX,hw,qQ2,he];rw[pW2 (by rw[hf]),H,Uy,u d (by omega) _];simp only;have:=r d (by omega);rw[fG,f0]at this;rw[hf,rB2,show j+(os.length+1)=j+1+os.length by omega];exact this
theorem Gx {ks before:aA Nat} (h:Cw ks before=true):∀(i l k k':Nat),i<l->ks[i]? =some k->ks[l]? =some k'->(before.getD l 0).testBit i=true\/iX k k'=true:=by
 intro i l k k' a hi hl;simp only[Cw,pX2,List.mem_range,qC2]at h;have:=h l (pO2.1 hl).1 i a;simpa[List.getD,hi,hl]using this
theorem Tr.draw (e:dr≠0) {before:aA Nat} {os:aA Sim.Op1} {σ τ:St} {fs:aA Foot} (h:Tr T N dr lim os σ fs τ) (n:Cw (os.map fun o=>kI N dr o.k) before=true):
  ∃D,∀d,D<=d->∃f,cX T (exec T d) lim before os 0 [] σ=some (τ,f)/\Sim.drawOK before f f.length=true:=by
 let ft:Nat->Foot:=fun i=>fs.getD i {}
 have b:∀i,i<fs.length->fs[i]? =some (ft i):=fun i hi=>by simp[ft,hi]
 obtain⟨hl,a⟩:=h.feet e;have sp:=Gx n;have c:∀(i:Nat) (o:Sim.Op1),os[i]? =some o->(os.map fun o=>kI N dr o.k)[i]? =some (kI N dr o.k):=fun i o m=>by simp[m]
 obtain⟨D,q⟩:=Tr.foot e (before:=before) (ks:=os.map fun o=>kI N dr o.k) h 0 ft (fun i hi=>by rw[rP2];exact b i hi) (fun i o m=>by rw[rP2];exact c i o m)
  (fun i l k k' g h1 h2 _=>sp i l k k' g h1 h2) (fun i k hi=>by omega) (fun i hi=>by omega)
 refine⟨D,fun d hd=>⟨_,q d hd,?_⟩⟩;rw[rP2,Sim.revF_length];refine tH (fun j r i hi=>?_);have p:os[j]? =some os[j]:=by simp
 have oi:os[i]? =some (os[i]'(by omega)):=by simp
 rcases sp i j _ _ hi (c i _ oi) (c j _ p)with h1|h1;exact .inl h1;right;exact Bd (nV _ _ _) (nV _ _ _) h1 (a i _ _ oi (b i (by omega))) (a j _ _ p (b j (by omega)))
def Qa (o:Sim.Op1) (a:Nat):Bool:=match o.k,o.xs with
 |.loadS,[.t b]=>Nat.beq b a
 |.loadA _,[.t b]=>Nat.beq b a
 |.slc ..,.t b::_=>Nat.beq b a
 |_,_=>false
def tkM (o:Sim.Op1):Bool:=match o.k with
 |.buildSl .. |.append .. =>true
 |_=>false
def Si (o:Sim.Op1) (a:Nat):Bool:=match o.k,o.xs with
 |.store _,[.t b,_]=>Nat.beq b a
 |.mapup ..,[.t b,_,_]=>Nat.beq b a
 |_,_=>false
def Qb (o:Sim.Op1) (a:Nat):Bool:=match o.k,o.dst with
 |.buildSl ..,some d=>Nat.beq d a
 |.append ..,some d=>Nat.beq d a
 |_,_=>false
def nX (a:Nat) (o:Sim.Op1):Bool:=match o.dst with
 |some d=> !Nat.beq d a
 |none=>true
def Uz (o:Sim.Op1) (d:Nat):aB Nat:=match o.k,o.xs,o.dst,o.guard with
 |.append ..,.t b::_,some d',none=>if Nat.beq b d=true then some d' else none
 |_,_,_,_=>none
def rS:aA Sim.Op1->Nat->Nat->Bool
 |[],d,a=>Nat.beq d a
 |o::os,d,a=>(nX d o&&rS os d a)||(match Uz o d with|some d'=>rS os d' a|none=>false)
def Zx (os:aA Sim.Op1) (o:Sim.Op1) (i a:Nat):Bool:=match o.dst with
 |some d=>Qb o d&&rS (os.drop (i+1)) d a
 |none=>false
def tkS (o:Sim.Op1) (a:Nat):Bool:=match o.k,o.dst with
 |.slc ..,some d=>Nat.beq d a
 |_,_=>false
def Qc (os:aA Sim.Op1) (p:Nat×Nat×Nat×Nat):Bool:=match os[p.1]?,os[p.2.1]? with
 |some o,some q=>((os.drop p.2.1).all (nX p.2.2.2)&&((Qa o p.2.2.1&&(os.drop p.1).all (nX p.2.2.1)&&Si q p.2.2.2)||(Qb o p.2.2.1&&(os.drop (p.1+1)).all (nX p.2.2.1)&&Qa q p.2.2.2)||(Nat.beq p.2.2.1 p.2.2.2&&tkM o&&Qa q p.2.2.2)||(Zx os o p.1 p.2.2.1&&Qa q p.2.2.2)))||(Qa o p.2.2.1&&(os.drop p.1).all (nX p.2.2.1)&&(Qb q p.2.2.2&&(os.drop (p.2.1+1)).all (nX p.2.2.2)))||(tkS o p.2.2.1&&(os.drop (p.1+1)).all (nX p.2.2.1)&&(Si q p.2.2.2&&(os.drop p.2.1).all (nX p.2.2.2)))
 |_,_=>false
def Nc (ks before:aA Nat) (ex:aA (Nat×Nat×Nat×Nat)):Bool:=
 (List.range ks.length).all fun j=>(List.range j).all fun i=>(before.getD j 0).testBit i||iX (ks.getD i 4) (ks.getD j 4)||ex.any fun p=>Nat.beq p.1 i&&Nat.beq p.2.1 j
theorem lI {t:aA AV} {o:Sim.Op1} {a:Nat} {v:AV} (h:nX a o=true):(put t o.dst v)[a]? =t[a]? :=by
 unfold nX at h;unfold put;split;rename_i d hd;rw[hd]at h;simp only[qH2,bJ,rC2]at h;rw[qM2 h];rfl
theorem Tr.keep {os:aA Sim.Op1} {σ τ:St} {fs:aA Foot} (h:Tr T N dr lim os σ fs τ) {a:Nat} (b:os.all (nX a)=true):τ.t[a]? =σ.t[a]? :=by
 induction h with
 |nil=>rfl
 |skip hw h ih=>simp only[rR2,pN2]at b;rw[ih b.2,lI b.1]
 |op hw he hc hd h ih=>simp only[rR2,pN2]at b;rw[ih b.2,lI b.1]
 |call hw he hc hk hf hs h ih=>simp only[rR2,pN2]at b;rw[ih b.2,lI b.1]
 |ncall hw he hf hk hs h ih=>simp only[rR2,pN2]at b;rw[ih b.2,lI b.1]
theorem oS1 {L:Nat->aB AO} {n:Nat} {o:Sim.Op1} {a:Nat} {xs:aA AV} {out:Out} (hk:Si o a=true) (h:doOp L lim n o.k xs=some out):out.new=none:=by
 unfold Si at hk;split at hk
 .rename_i h1 h2
  rw[h1]at h;unfold doOp at h
  repeat' split at h
  all_goals first|(cases h;done)|(cases h;rfl)|simp_all
 .rename_i h1 h2
  rw[h1]at h;unfold doOp at h
  repeat' split at h
  all_goals first|(cases h;done)|(cases h;rfl)|simp_all
 .cases hk
theorem Qd {t:aA AV} {b:Nat} {r:aA IX} {xs:aA AV} (h:Sim.evs t (.t b::r)=some xs):∃y ys,xs=y::ys/\t[b]? =some y/\Sim.evs t r=some ys:=by
 simp only[Sim.evs,Sim.IX.ev]at h;split at h;rename_i a as h1 h2;cases h;exact⟨a,as,rfl,h1,h2⟩;cases h
theorem oH {s:Hp} {out:Out} {x:AO} (h:out.new=some x):List.range' s.n ((out.apply s).n-s.n)=[s.n]:=by
 have:(out.apply s).n=s.n+1:=by unfold Out.apply;rw[h]
 rw[this,Nat.add_sub_cancel_left];rfl
def Va (f:Foot) (τ:St) (a:Nat):Prop:=f={}\/∀y,τ.t[a]? =some y->f.rd=Sim.idOf y/\f.wr=[]/\f.al=[]/\f.all=0
def oT1 (f:Foot) (τ:St) (a:Nat):Prop:=f={}\/∀y,τ.t[a]? =some y->f.wr=Sim.idOf y/\f.rd=[]/\f.al=[]/\f.all=0
def Zy (f:Foot) (τ:St) (a:Nat):Prop:=f={}\/∀y,τ.t[a]? =some y->f.all=0/\(∀x∈f.wr,x∈Sim.idOf y)/\∀x∈f.al,x∈Sim.idOf y
theorem Kk {L:Nat->aB AO} {n ty esz:Nat} {s:AV} {new:aA (aA AV)} {out:Out} (h:Sim.appendTo L lim n ty esz s new=some out):
  (∀x∈Sim.idOf s,x∈Sim.idOf out.v)/\(out.new=none\/Sim.idOf out.v=[n]):=by
 unfold Sim.appendTo at h
 repeat' split at h
 all_goals first|(cases h;done)|(cases h;exact⟨fun x a=>a,.inl rfl⟩)|(cases h;exact⟨fun x a=>by simp[Sim.idOf]at a,.inr rfl⟩)
theorem Cy {L:Nat->aB AO} {n:Nat} {o:Sim.Op1} {a:Nat} {xs:aA AV} {out:Out} (hk:Qb o a=true) (h:doOp L lim n o.k xs=some out):
  (foot T o.k xs).all=0/\(∀x∈(foot T o.k xs).wr,x∈Sim.idOf out.v)/\(out.new=none\/Sim.idOf out.v=[n])/\o.dst=some a:=by
 unfold Qb at hk;split at hk;rename_i d h1 h2;rw[h1]at h ⊢;rw[h2,qF2 hk];refine⟨by rcases xs with _|⟨p,_|⟨q,_|⟨r,t⟩⟩⟩<;>rfl,fun x e=>by rcases xs with _|⟨p,_|⟨q,_|⟨r,t⟩⟩⟩<;>simp[foot]at e,.inr ?_,rfl⟩;unfold doOp at h;simp only[pP2]at h;obtain⟨cs,_,rfl⟩:=h;rfl;rename_i d h1 h2;rw[h1]at h ⊢;rcases xs with _|⟨p,_|⟨q,_|⟨r,t⟩⟩⟩
 simp[doOp]at h;simp[doOp]at h;simp only[doOp]at h;split at h;split at h;rename_i o' c;have:=Kk c
 have b:out=o':=by
  split at h;split at h;cases h;rfl;cases h;cases h;rfl
 subst b;exact⟨rfl,this.1,this.2,by rw[h2,qF2 hk]⟩;cases h;cases h;simp[doOp]at h;cases hk
theorem jS1 {o:Sim.Op1} {a:Nat} {σ:St} {xs:aA AV} (hk:Qa o a=true) (he:Sim.evs σ.t o.xs=some xs):∃y,σ.t[a]? =some y/\foot T o.k xs={rd:=Sim.idOf y}/\kI N dr o.k<=1:=by
 unfold Qa at hk;split at hk;rename_i b h1 h2;rw[h2]at he;obtain⟨y,ys,rfl,d,c⟩:=Qd he;simp only[Sim.evs,pV2]at c;subst c;rw[h1,<-qF2 hk];exact⟨y,d,rfl,by simp[kI]⟩;rename_i b h1 h2;rw[h2]at he;obtain⟨y,ys,rfl,d,c⟩:=Qd he;simp only[Sim.evs,pV2]at c;subst c;rw[h1,<-qF2 hk];exact⟨y,d,rfl,by simp[kI]⟩;rename_i b _ h1 h2;rw[h2]at he;obtain⟨y,ys,rfl,d,c⟩:=Qd he;rw[h1,<-qF2 hk];exact⟨y,d,rfl,by simp[kI]⟩;cases hk
theorem jT1 {o:Sim.Op1} {a:Nat} {σ:St} {xs:aA AV} (hk:Si o a=true) (he:Sim.evs σ.t o.xs=some xs):∃y,σ.t[a]? =some y/\foot T o.k xs={wr:=Sim.idOf y}:=by
 unfold Si at hk;split at hk;rename_i b c h1 h2;rw[h2]at he;obtain⟨y,ys,rfl,e,f⟩:=Qd he;rw[h1,<-qF2 hk];exact⟨y,e,rfl⟩;rename_i b c d h1 h2;rw[h2]at he;obtain⟨y,ys,rfl,e,f⟩:=Qd he;rw[h1,<-qF2 hk];exact⟨y,e,rfl⟩;cases hk
theorem mN {o:Sim.Op1} {a:Nat} (h:Qa o a=true\/Si o a=true\/Qb o a=true):gR o.k=false/\∀xs,(foot T o.k xs).all=0:=by
 have key:∀k:dW,(k=.loadS\/(∃n,k=.loadA n)\/(∃n,k=.store n)\/(∃a b,k=.mapup a b)\/(∃a b c d e,k=.buildSl a b c d e)\/(∃a b c d e,k=.append a b c d e)\/∃a b c d,k=.slc a b c d)->gR k=false/\∀xs,(foot T k xs).all=0:=by
  intro k hk
  rcases hk with rfl|⟨_,rfl⟩|⟨_,rfl⟩|⟨_,_,rfl⟩|⟨_,_,_,_,_,rfl⟩|⟨_,_,_,_,_,rfl⟩|⟨_,_,_,_,rfl⟩<;>
   exact⟨rfl,fun xs=>by rcases xs with _|⟨p,_|⟨q,_|⟨r,t⟩⟩⟩<;>rfl⟩
 refine key _ ?_;rcases h with h|h|h;unfold Qa at h;split at h;rename_i h1 _;exact .inl h1;rename_i h1 _;exact .inr (.inl ⟨_,h1⟩);rename_i h1 _;exact .inr (.inr (.inr (.inr (.inr (.inr ⟨_,_,_,_,h1⟩)))));cases h;unfold Si at h;split at h;rename_i h1 _;exact .inr (.inr (.inl ⟨_,h1⟩));rename_i h1 _;exact .inr (.inr (.inr (.inl ⟨_,_,h1⟩)));cases h;unfold Qb at h;split at h;rename_i h1 _;exact .inr (.inr (.inr (.inr (.inl ⟨_,_,_,_,_,h1⟩))));rename_i h1 _;exact .inr (.inr (.inr (.inr (.inr (.inl ⟨_,_,_,_,_,h1⟩)))));cases h
theorem Tr.touch {os:aA Sim.Op1} {σ τ:St} {fs:aA Foot} (h:Tr T N dr lim os σ fs τ):∀(i:Nat) (o:Sim.Op1) (f:Foot) (a:Nat),os[i]? =some o->fs[i]? =some f->
  (Qa o a=true->(os.drop i).all (nX a)=true->Va f τ a)/\(Si o a=true->(os.drop i).all (nX a)=true->oT1 f τ a)/\(Qb o a=true->(os.drop (i+1)).all (nX a)=true->Zy f τ a):=by
 induction h with
 |nil=>intro i o f a h;simp at h
 |skip hw h ih=>
  intro i o f a h1 h2;cases i with
  |zero=>simp at h1 h2;subst h1;subst h2;exact⟨fun _ _=>.inl rfl,fun _ _=>.inl rfl,fun _ _=>.inl rfl⟩
  |succ i=>simp at h1 h2;simpa using ih i o f a h1 h2
 |@op o os σ τ fs xs out hw he hc hd h ih=>
  intro i o' f a h1 h2;cases i with
  |zero=>
   simp at h1 h2;subst h1;subst h2;refine⟨fun hk hb=>?_,fun hk hb=>?_,fun hk hb=>?_⟩;simp only[rK2,rR2,pN2]at hb;obtain⟨y,j,d,e⟩:=jS1 (T:=T) (N:=N) (dr:=dr) hk he;refine .inr (fun z b=>?_);rw[h.keep hb.2,lI hb.1,j]at b;cases b;exact⟨by rw[d],by rw[d],nW (gW1 hd e),by rw[d]⟩;simp only[rK2,rR2,pN2]at hb;obtain⟨y,j,d⟩:=jT1 (T:=T) hk he;refine .inr (fun z b=>?_);rw[h.keep hb.2,lI hb.1,j]at b;cases b;exact⟨by rw[d],by rw[d],nW (oS1 hk hd),by rw[d]⟩;obtain⟨j,d,e,m⟩:=Cy (T:=T) hk hd;have hb:os.all (nX a)=true:=by simpa using hb
   have g:∀z,(put σ.t o.dst out.v)[a]? =some z->z=out.v:=fun z b=>by
    rw[m]at b;simp only[put,qK2]at b;split at b;split at b;cases b;rfl;cases b;rename_i l;exact(l trivial).elim
   refine .inr (fun z b=>?_);rw[h.keep hb]at b;have:=g z b;subst this;refine⟨j,d,fun x c=>?_⟩;rcases e with e|e;have:=nW (s:=σ.s) e;simp only at c;rw[this]at c;simp at c;cases hn:out.new with
   |none=>
    have:=nW (s:=σ.s) hn;simp only at c;rw[this]at c;simp at c
   |some w=>
    simp only at c;rw[oH hn]at c;rw[e];exact c
  |succ i=>simp at h1 h2;simpa using ih i o' f a h1 h2
 |@call o os σ τ fs xs v hw he hc hk hf hs h ih=>
  intro i o' f a h1 h2;cases i with
  |zero=>
   simp at h1 h2;subst h1;subst h2;have no:¬(Qa o a=true\/Si o a=true\/Qb o a=true):=fun k=>by have:=(mN (T:=T) k).1;rw[hc]at this;cases this
   exact⟨fun hk _=>absurd (.inl hk) no,fun hk _=>absurd (.inr (.inl hk)) no,fun hk _=>absurd (.inr (.inr hk)) no⟩
  |succ i=>simp at h1 h2;simpa using ih i o' f a h1 h2
 |@ncall o os σ τ fs xs v s' hw he hf hk hs h ih=>
  intro i o' f a h1 h2;cases i with
  |zero=>
   simp at h1 h2;subst h1;subst h2;have no:¬(Qa o a=true\/Si o a=true\/Qb o a=true):=fun k=>by have:=(mN (T:=T) k).2 xs;rw[hf]at this;cases this
   exact⟨fun hk _=>absurd (.inl hk) no,fun hk _=>absurd (.inr (.inl hk)) no,fun hk _=>absurd (.inr (.inr hk)) no⟩
  |succ i=>simp at h1 h2;simpa using ih i o' f a h1 h2
theorem Zz {L:Nat->aB AO} {n e:Nat} {lo hi mx:Bool} {xs:aA AV} {out:Out} (h:doOp L lim n (.slc e lo hi mx) xs=some out):∃y,foot T (.slc e lo hi mx) xs={rd:=Sim.idOf y}/\Sim.idOf out.v=Sim.idOf y/\out.new=none:=by
 cases xs with
 |nil=>simp[doOp,Sim.sliceOp]at h
 |cons y ys=>
  refine⟨y,rfl,?_⟩;have h2:(Sim.sliceOp L e lo hi mx (y::ys)).map (fun v=>({v:=v}:Out))=some out:=h;clear h;rw[pP2]at h2;obtain⟨v,a,rfl⟩:=h2;refine⟨?_,rfl⟩;cases y<;>simp only[Sim.sliceOp]at a<;>(repeat' split at a)<;>first|(cases a;done)|(cases a;rfl)|(simp at a;done)|(simp at a;subst a;simp_all[Sim.idOf])
theorem Tr.touchS {os:aA Sim.Op1} {σ τ:St} {fs:aA Foot} (h:Tr T N dr lim os σ fs τ):∀(i:Nat) (o:Sim.Op1) (f:Foot) (a:Nat),os[i]? =some o->fs[i]? =some f->tkS o a=true->(os.drop (i+1)).all (nX a)=true->Va f τ a:=by
 induction h with
 |nil=>intro i o f a h;simp at h
 |skip hw h ih=>
  intro i o f a h1 h2 hk hb;cases i with
  |zero=>simp at h1 h2;subst h1;subst h2;exact .inl rfl
  |succ i=>simp at h1 h2;exact ih i o f a h1 h2 hk (by simpa using hb)
 |@op o os σ τ fs xs out hw he hc hd h ih=>
  intro i o' f a h1 h2 hk hb;cases i with
  |zero=>
   simp at h1 h2;subst h1;subst h2;unfold tkS at hk;split at hk;rename_i d q1 q2;rw[q1]at hd;obtain⟨y,g,j,k⟩:=Zz (T:=T) hd;have hb:os.all (nX a)=true:=by simpa using hb
   have c:∀z,(put σ.t o.dst out.v)[a]? =some z->z=out.v:=fun z b=>by
    rw[q2,qF2 hk]at b;simp only[put,qK2]at b;split at b;split at b;cases b;rfl;cases b;rename_i e;exact(e trivial).elim
   refine .inr (fun z b=>?_);rw[h.keep hb]at b;have:=c z b;subst this;rw[q1];exact⟨by rw[g,j],by rw[g],nW k,by rw[g]⟩;cases hk
  |succ i=>simp at h1 h2;exact ih i o' f a h1 h2 hk (by simpa using hb)
 |@call o os σ τ fs xs v hw he hc hk' hf hs h ih=>
  intro i o' f a h1 h2 hk hb;cases i with
  |zero=>
   simp at h1 h2;subst h1;subst h2;unfold tkS at hk;split at hk;rename_i d q1 q2;rw[q1]at hc;cases hc;cases hk
  |succ i=>simp at h1 h2;exact ih i o' f a h1 h2 hk (by simpa using hb)
 |@ncall o os σ τ fs xs v s' hw he hf hk' hs h ih=>
  intro i o' f a h1 h2 hk hb;cases i with
  |zero=>
   simp at h1 h2;subst h1;subst h2;unfold tkS at hk;split at hk;rename_i d q1 q2;rw[q1]at hf;rcases xs with _|⟨x,t⟩<;>exact absurd (show(0:Nat)=2 from hf) (by decide);cases hk
  |succ i=>simp at h1 h2;exact ih i o' f a h1 h2 hk (by simpa using hb)
theorem mO {o:Sim.Op1} {d a:Nat} (h:Uz o d=some a):o.guard=none/\o.dst=some a/\Qb o a=true/\∃ty es b zero g r,o.k=.append ty es b zero g/\o.xs=.t d::r:=by
 unfold Uz at h;split at h;rename_i h1 h2 c e;split at h;rename_i hb;cases h;refine⟨e,c,?_,_,_,_,_,_,_,h1,by rw[h2,qF2 hb]⟩;unfold Qb;rw[h1,c];exact Nat.beq_refl _;cases h;cases h
theorem Tr.flow {os:aA Sim.Op1} {σ τ:St} {fs:aA Foot} (h:Tr T N dr lim os σ fs τ):∀(d a:Nat),rS os d a=true->∀z,τ.t[a]? =some z->∃y,σ.t[d]? =some y/\∀x∈Sim.idOf y,x∈Sim.idOf z:=by
 induction h with
 |nil=>
  intro d a hf z c;simp only[rS]at hf;rw[qF2 hf];exact⟨z,c,fun x i=>i⟩
 |@skip o os σ τ fs hw h ih=>
  intro d a hf z c;simp only[rS,qC2,pN2]at hf;rcases hf with hf|hf;obtain⟨y,h1,h2⟩:=ih d a hf.2 z c;exact⟨y,by rw[<-h1];exact(lI hf.1).symm,h2⟩;split at hf;rename_i e hs;rw[(mO hs).1]at hw;simp[Sim.wanted]at hw;cases hf
 |@op o os σ τ fs xs out hw he hc hd h ih=>
  intro d a hf z c;simp only[rS,qC2,pN2]at hf;rcases hf with hf|hf;obtain⟨y,h1,h2⟩:=ih d a hf.2 z c;exact⟨y,by rw[<-h1];exact(lI hf.1).symm,h2⟩;split at hf;rename_i e hs;obtain⟨q1,q2,q3,ty,es,b,zero,g,r,q4,q5⟩:=mO hs;obtain⟨l,h1,h2⟩:=ih e a hf z c;obtain⟨m,k,n,p⟩:=Cy (T:=T) q3 hd
  have hv:l=out.v:=by
   have c:=h1;simp only at c;rw[q2]at c;simp only[put,qK2]at c;split at c;split at c;cases c;rfl;cases c;rename_i f;exact(f trivial).elim
  subst hv;rw[q5]at he;obtain⟨y,ys,rfl,j,e2⟩:=Qd he;refine⟨y,j,fun x i=>h2 x (k x ?_)⟩;rw[q4]at hd ⊢;rcases ys with _|⟨w,_|⟨w2,ws⟩⟩
  simp[doOp]at hd;exact i;simp[doOp]at hd;cases hf
 |@call o os σ τ fs xs v hw he hc hk hff hs h ih=>
  intro d a hf z c;simp only[rS,qC2,pN2]at hf;rcases hf with hf|hf;obtain⟨y,h1,h2⟩:=ih d a hf.2 z c;exact⟨y,by rw[<-h1];exact(lI hf.1).symm,h2⟩;split at hf;rename_i e hs;have:=(mN (T:=T) (.inr (.inr (mO hs).2.2.1))).1;rw[hc]at this;cases this;cases hf
 |@ncall o os σ τ fs xs v s' hw he hff hk hs h ih=>
  intro d a hf z c;simp only[rS,qC2,pN2]at hf;rcases hf with hf|hf;obtain⟨y,h1,h2⟩:=ih d a hf.2 z c;exact⟨y,by rw[<-h1];exact(lI hf.1).symm,h2⟩;split at hf;rename_i e hs;have:=(mN (T:=T) (.inr (.inr (mO hs).2.2.1))).2 xs;rw[hff]at this;cases this;cases hf
theorem Tr.touchL {os:aA Sim.Op1} {σ τ:St} {fs:aA Foot} (h:Tr T N dr lim os σ fs τ):∀(i:Nat) (o:Sim.Op1) (f:Foot) (a:Nat),os[i]? =some o->fs[i]? =some f->Zx os o i a=true->Zy f τ a:=by
 induction h with
 |nil=>intro i o f a h;simp at h
 |skip hw h ih=>
  intro i o f a h1 h2 hk;cases i with
  |zero=>simp at h1 h2;subst h1;subst h2;exact .inl rfl
  |succ i=>simp at h1 h2;exact ih i o f a h1 h2 (by simpa[Zx]using hk)
 |@op o os σ τ fs xs out hw he hc hd h ih=>
  intro i o' f a h1 h2 hk;cases i with
  |zero=>
   simp at h1 h2;subst h1;subst h2;unfold Zx at hk;split at hk;rename_i d g;simp only[pN2,List.drop_succ_cons,rK2]at hk;obtain⟨m,n,j,q⟩:=Cy (T:=T) hk.1 hd;refine .inr (fun z e=>?_);obtain⟨y,p,l⟩:=h.flow d a hk.2 z e
   have hv:y=out.v:=by
    have e:=p;simp only at e;rw[g]at e;simp only[put,qK2]at e;split at e;split at e;cases e;rfl;cases e;rename_i k;exact(k trivial).elim
   subst hv;refine⟨m,fun x c=>l x (n x c),fun x c=>l x ?_⟩;rcases j with j|j;have:=nW (s:=σ.s) j;simp only at c;rw[this]at c;simp at c;cases hn:out.new with
   |none=>
    have:=nW (s:=σ.s) hn;simp only at c;rw[this]at c;simp at c
   |some w=>
    simp only at c;rw[oH hn]at c;rw[j];exact c
   cases hk
  |succ i=>simp at h1 h2;exact ih i o' f a h1 h2 (by simpa[Zx]using hk)
 |@call o os σ τ fs xs v hw he hc hk hf hs h ih=>
  intro i o' f a h1 h2 b;cases i with
  |zero=>
   simp at h1 h2;subst h1;subst h2;unfold Zx at b;split at b;simp only[pN2]at b;have:=(mN (T:=T) (.inr (.inr b.1))).1;rw[hc]at this;cases this;cases b
  |succ i=>simp at h1 h2;exact ih i o' f a h1 h2 (by simpa[Zx]using b)
 |@ncall o os σ τ fs xs v s' hw he hf hk hs h ih=>
  intro i o' f a h1 h2 b;cases i with
  |zero=>
   simp at h1 h2;subst h1;subst h2;unfold Zx at b;split at b;simp only[pN2]at b;have:=(mN (T:=T) (.inr (.inr b.1))).2 xs;rw[hf]at this;cases this;cases b
  |succ i=>simp at h1 h2;exact ih i o' f a h1 h2 (by simpa[Zx]using b)
def Nd (τ:St) (p:Nat×Nat×Nat×Nat):Prop:=∃y z,τ.t[p.2.2.1]? =some y/\τ.t[p.2.2.2]? =some z/\∀x∈Sim.idOf y,x∉Sim.idOf z
theorem jJ {f g:Foot} {τ:St} {p:Nat×Nat×Nat×Nat} (h:(Va f τ p.2.2.1/\oT1 g τ p.2.2.2)\/(Zy f τ p.2.2.1/\Va g τ p.2.2.2)) (m:Nd τ p):Sim.compat0 f g=true:=by
 obtain⟨y,z,hy,l,hd⟩:=m;rcases h with⟨h1,h2⟩|⟨h1,h2⟩
 rcases h2 with rfl|h2;rcases h1 with rfl|h1;rfl;obtain⟨a,b,c,d⟩:=h1 y hy;simp[Sim.compat0,b,c,d];obtain⟨a',b',k,j⟩:=h2 z l;rcases h1 with rfl|h1;simp[Sim.compat0,j];obtain⟨a,b,c,d⟩:=h1 y hy;have:∀x∈g.wr,x∉f.rd:=fun x i e=>by rw[a]at e;rw[a']at i;exact hd x e i
 simpa[Sim.compat0,b,c,d,b',k,j]using this;rcases h2 with rfl|h2;rcases h1 with rfl|h1;rfl;obtain⟨a,b,c⟩:=h1 y hy;simp[Sim.compat0,a];obtain⟨a',b',k,j⟩:=h2 z l;rcases h1 with rfl|h1;simp[Sim.compat0,j];obtain⟨a,b,c⟩:=h1 y hy;have n:∀x∈f.wr,x∉g.rd:=fun x i e=>by rw[a']at e;exact hd x (b x i) e
 have o:∀x∈f.al,x∉g.rd:=fun x i e=>by rw[a']at e;exact hd x (c x i) e
 simpa[Sim.compat0,a,b',k,j]using And.intro n o
theorem Qe {f g:Foot} {τ:St} {p:Nat×Nat×Nat×Nat} (h1:Va f τ p.2.2.1) (h2:Zy g τ p.2.2.2) (j:Nd τ p):Sim.compat0 f g=true:=by
 obtain⟨y,z,hy,h,hd⟩:=j;rcases h1 with rfl|h1;rcases h2 with rfl|h2;rfl;obtain⟨a',b',i⟩:=h2 z h;simp[Sim.compat0,a'];obtain⟨a,b,c,d⟩:=h1 y hy;rcases h2 with rfl|h2;simp[Sim.compat0,b,c,d];obtain⟨a',b',i⟩:=h2 z h;have:∀x∈g.wr,x∉f.rd:=fun x k e=>by rw[a]at e;exact hd x e (b' x k)
 simpa[Sim.compat0,b,c,d,a']using this
theorem Kl {ks before:aA Nat} {ex:aA (Nat×Nat×Nat×Nat)} (h:Nc ks before ex=true):∀(i l k k':Nat),i<l->ks[i]? =some k->ks[l]? =some k'->((before.getD l 0).testBit i=true\/iX k k'=true)\/∃p∈ex,p.1=i/\p.2.1=l:=by
 intro i l k k' a hi hl;simp only[Nc,pX2,List.mem_range,qC2,List.any_eq_true,pN2]at h;rcases h l (pO2.1 hl).1 i a with h1|⟨p,h1,h2,h3⟩
 exact .inl (by simpa[List.getD,hi,hl]using h1);exact .inr ⟨p,h1,qF2 h2,qF2 h3⟩
theorem Tr.drawX (w:dr≠0) {before:aA Nat} {ex:aA (Nat×Nat×Nat×Nat)} {os:aA Sim.Op1} {σ τ:St} {fs:aA Foot} (h:Tr T N dr lim os σ fs τ) (K:Nc (os.map fun o=>kI N dr o.k) before ex=true)
  (F:ex.all (Qc os)=true) (m:∀p∈ex,Nd τ p):
  ∃D,∀d,D<=d->∃C,cX T (exec T d) lim before os 0 [] σ=some (τ,C)/\Sim.drawOK before C C.length=true:=by
 let ft:Nat->Foot:=fun i=>fs.getD i {}
 have f:∀i,i<fs.length->fs[i]? =some (ft i):=fun i hi=>by simp[ft,hi]
 obtain⟨hl,g⟩:=h.feet w;have sp:=Kl K;have s:∀(i:Nat) (o:Sim.Op1),os[i]? =some o->(os.map fun o=>kI N dr o.k)[i]? =some (kI N dr o.k):=fun i o J=>by simp[J]
 have B:∀p∈ex,∃o q,os[p.1]? =some o/\os[p.2.1]? =some q/\Qc os p=true:=by
  intro p hp;have:=pX2.1 F p hp;have h2:=this;unfold Qc at h2;split at h2
  .rename_i o q r P;exact⟨o,q,r,P,this⟩
  .cases h2
 obtain⟨D,R⟩:=Tr.foot w (before:=before) (ks:=os.map fun o=>kI N dr o.k) h 0 ft (fun i hi=>by rw[rP2];exact f i hi) (fun i o J=>by rw[rP2];exact s i o J)
  (fun i l k k' G h1 h2 H=>by
   rcases sp i l k k' G h1 h2 with r|⟨p,hp,rfl,rfl⟩
   .exact r
   .exfalso
    obtain⟨o,q,u,e2,e⟩:=B p hp;rw[s _ _ e2]at h2;cases h2;unfold Qc at e;rw[u,e2]at e;simp only[pN2,qC2]at e
    have S:Qa q p.2.2.2=true\/Si q p.2.2.2=true\/Qb q p.2.2.2=true:=by
     rcases e with(e|e)|e
     .rcases e.2 with((h|h)|h)|h
      .exact .inr (.inl h.2)
      .exact .inl h.2
      .exact .inl h.2
      .exact .inl h.2
     .exact .inr (.inr e.2.1)
     .exact .inr (.inl e.2.1)
    have hc:=(mN (T:=T) S).1;revert H hc;cases q.k
    case len n=>simp only[kI];cases Nat.beq n 2<;>simp
    all_goals simp[kI,gR]) (fun i k hi=>by omega) (fun i hi=>by omega)
 refine⟨D,fun d hd=>⟨_,R d hd,?_⟩⟩;rw[rP2,Sim.revF_length];refine tH (fun j U i hi=>?_);have O:os[j]? =some os[j]:=by simp
 have oi:os[i]? =some (os[i]'(by omega)):=by simp
 rcases sp i j _ _ hi (s i _ oi) (s j _ O)with(h1|h1)|⟨p,hp,rfl,rfl⟩
 .exact .inl h1
 .right
  exact Bd (nV _ _ _) (nV _ _ _) h1 (g i _ _ oi (f i (by omega))) (g j _ _ O (f j (by omega)))
 .right
  obtain⟨o,q,u,e2,e⟩:=B p hp;unfold Qc at e;rw[u,e2]at e;simp only[pN2,qC2]at e;have L:=h.touch p.1 o _ p.2.2.1 u (f p.1 (by omega));have v:=h.touch p.2.1 q _ p.2.2.2 e2 (f p.2.1 (by omega));rcases e with(e|e)|e
  case inr.inr=>exact fW<|jJ (.inl ⟨h.touchS p.1 o _ p.2.2.1 u (f p.1 (by omega)) e.1.1 e.1.2,v.2.1 e.2.1 e.2.2⟩) (m p hp)
  case inr.inl.inr=>exact fW<|Qe (L.1 e.1.1 e.1.2) (v.2.2 e.2.1 e.2.2) (m p hp)
  rcases e.2 with((⟨⟨h1,h2⟩,r⟩|⟨⟨h1,h2⟩,r⟩)|⟨⟨h1,h2⟩,r⟩)|⟨h1,r⟩
  .exact fW<|jJ (.inl ⟨L.1 h1 h2,v.2.1 r e.1⟩) (m p hp)
  .exact fW<|jJ (.inr ⟨L.2.2 h1 h2,v.1 r e.1⟩) (m p hp)
  .have E:=qF2 h1
   obtain⟨y,z,hy,M,hd⟩:=m p hp;rw[E]at hy;rw[hy]at M;cases M;have A:Sim.idOf y=[]:=List.eq_nil_iff_forall_not_mem.2 (fun x B=>hd x B B)
   have t:(ft p.1).all=0:=by
    have hf:=g p.1 o _ u (f p.1 (by omega));unfold tkM at h2;unfold lH at hf;split at h2
    .rename_i hk
     rw[hk]at hf;rcases hf with hf|hf
     .rw [hf]
     .exact hf.2.2
    .rename_i hk
     rw[hk]at hf;rcases hf with hf|hf
     .rw [hf]
     .exact hf
    .cases h2
   rcases v.1 r e.1 with hg|hg
   .refine fW ?_
    rw[hg];simp[Sim.compat0,t]
   .obtain ⟨a,b,c,d⟩:=hg y hy
    rw[A]at a;refine fW ?_;simp[Sim.compat0,t,a,b,c,d]
  .exact fW<|jJ (.inr ⟨h.touchL p.1 o _ p.2.2.1 u (f p.1 (by omega)) h1,v.1 r e.1⟩) (m p hp)
end
end Go.P
namespace Go.P
open Go.Sim (AV AO Hp eY upd St IC IX Ex dW CK Wf Out doOp gH exec mapO lY uW Ir)
theorem vK {A:Type} {f:A->aB A}:∀{l:aA A},(∀x∈l,f x=some x)->mapO f l=some l
 |[],_=>rfl
 |a::as,h=>by
  have h1:=h a (List.mem_cons_self ..)
  have h2:=vK (f:=f) (l:=as) (fun x b=>h x (sD2 _ b))
  simp only[mapO,h1,h2]
section
variable {L:Nat->Option AO} {n0:Nat}
theorem xZ {x:PV} {y:AV} {d:Nat} (h:RC true x y):lY L n0 (d+1) y=some y:=by
 cases h<;>rfl
theorem Cz {Q:PV->AV->Prop} {xs:aA PV} {ys:aA AV} (h:LR Q xs ys) {y:AV} (hy:y∈ys):∃x,x∈xs/\Q x y:=by
 obtain⟨j,a⟩:=qG2.1 hy;have b:j<xs.length:=by rw[h.1];exact(pO2.1 a).1
 exact⟨xs[j],by simp,h.2 j _ y (by simp) a⟩
theorem Be {xs:aA PV} {ys:aA AV} {d:Nat} (h:LR (RC true) xs ys):mapO (lY L n0 (d+1)) ys=some ys:=
 vK fun y hy=>by
  obtain⟨x,_,a⟩:=Cz h hy
  exact xZ a
theorem aA1 {rows:aA (aA PV)} {els:aA (aA AV)} {d:Nat} (h:RR rows els):mapO (fun row=>mapO (lY L n0 (d+1)) row) els=some els:=
 vK fun r hr=>by
  obtain⟨j,a⟩:=qG2.1 hr
  have b:j<rows.length:=by rw[h.1];exact(pO2.1 a).1
  exact Be (h.2 j rows[j] r (by simp) a)
theorem Nf {rows:aA (aA PV)} {els:aA (aA AV)} {d e id ver:Nat} {bx:Bool} {ty:TypeId} (c:n0<=id) (a:L id=some (.arr bx ty e ver els)) (hr:RR rows (els.take rows.length)) (b:rows.length<=els.length):
  lY L n0 (d+2) (.sl e id ver 0 rows.length none)=some (.is e (els.take rows.length)):=by
 have hc:n0<=id/\ver=ver/\0+rows.length<=els.length:=⟨c,rfl,by omega⟩
 show(match L id with
   |some (.arr _ _ e ver' els)=>
    if n0<=id/\ver'=ver/\0+rows.length<=els.length then(mapO (fun row=>mapO (lY L n0 (d+1)) row) ((els.drop 0).take rows.length)).map fun rows=>AV.is e rows else none
   |_=>none)=_
 rw[a];show(if n0<=id/\ver=ver/\0+rows.length<=els.length then(mapO (fun row=>mapO (lY L n0 (d+1)) row) ((els.drop 0).take rows.length)).map fun rows=>AV.is e rows else none)=_
 rw[pW2 hc,rK2,aA1 hr];rfl
theorem gX1 {Q Q':PV->AV->Prop} {f:AV->aB AV} (hf:∀x y,Q x y->∃b,f y=some b/\Q' x b):∀{xs:aA PV} {ys:aA AV},LR Q xs ys->∃a,mapO f ys=some a/\LR Q' xs a
 |[],ys,h=>by rw[h.inv_nil];exact⟨[],rfl,.nil⟩
 |x::xs,ys,h=>by
  obtain⟨y,a,rfl,h1,h2⟩:=h.inv_cons
  obtain⟨b,c,d⟩:=hf x y h1
  obtain⟨zs,e,g⟩:=gX1 hf h2
  exact⟨b::zs,by simp only[mapO,c,e],.cons d g⟩
theorem Vb {z:Nat->aB AO} {d:Nat} {f:AV->aB AV} (hf:∀x y,RZ z d x y->∃g,f y=some g/\RC true x g):∀{rows:aA (aA PV)} {els:aA (aA AV)},Ar z d rows els->∃c,mapO (fun row=>mapO f row) els=some c/\RR rows c
 |[],els,h=>by
  have:els=[]:=sV2 h.1.symm
  subst this
  exact⟨[],rfl,.nil⟩
 |r::rows,[],h=>by have:=h.1;simp at this
 |r::rows,e::els,h=>by
  obtain⟨e',k,l⟩:=gX1 hf (h.2 0 r e rfl rfl)
  obtain⟨es',m,n⟩:=Vb hf (rows:=rows) (els:=els) ⟨by simpa using h.1,fun i a b j hb=>h.2 (i+1) a b (by simpa using j) (by simpa using hb)⟩
  exact⟨e'::es',by simp only[mapO,k,m],.cons l n⟩
theorem Ng {z:Nat->aB AO} (g:∀id o,z id=some o->n0<=id/\L id=some o):∀(d f:Nat),d<f->∀(x:PV) (y:AV),RZ z d x y->∃j,lY L n0 f y=some j/\RC true x j
 |0,f+1,_,x,y,h=>⟨y,xZ h,h⟩
 |d+1,f+1,hd,x,y,h=>by
  rcases h with h|⟨e,rows,id,ver,ty,els,rfl,rfl,h3,h4,h5⟩
  exact⟨y,xZ h,h⟩
  have ih:=Ng g d f (by omega)
  have hr:Ar z d rows (els.take rows.length):=⟨by simp[Nat.min_eq_left h4],fun i r r' a b=>h5 i r r' a (by
   rw[rA2]at b
   split at b
   exact b
   cases b)⟩
  obtain⟨c,k,l⟩:=Vb (f:=lY L n0 f) (fun x y h=>ih x y h) hr
  obtain⟨z1,z2⟩:=g id _ h3
  refine⟨.is e c,?_,l.is⟩
  show(match L id with
   |some (.arr _ _ e ver' els)=>
    if n0<=id/\ver'=ver/\0+rows.length<=els.length then(mapO (fun row=>mapO (lY L n0 f) row) ((els.drop 0).take rows.length)).map fun rows=>AV.is e rows else none
   |_=>none)=_
  rw[z2]
  show(if n0<=id/\ver=ver/\0+rows.length<=els.length then(mapO (fun row=>mapO (lY L n0 f) row) ((els.drop 0).take rows.length)).map fun rows=>AV.is e rows else none)=_
  rw[pW2 ⟨z1,rfl,by omega⟩,rK2,k]
  rfl
theorem gY1 {z:Nat->aB AO} (g:∀id o,z id=some o->n0<=id/\L id=some o) {d f e id ver ty:Nat} {rows:aA (aA PV)} {els:aA (aA AV)} (hd:d<f) (c:n0<=id) (b:L id=some (.arr false ty e ver els)) (hr:Ar z d rows els):
  ∃a,lY L n0 (f+1) (.sl e id ver 0 rows.length none)=some (.is e a)/\RR rows a:=by
 obtain⟨a,i,j⟩:=Vb (f:=lY L n0 f) (fun x y h=>Ng g d f hd x y h) hr;refine⟨a,?_,j⟩;have hl:=hr.1
 show(match L id with
  |some (.arr _ _ e ver' els)=>
   if n0<=id/\ver'=ver/\0+rows.length<=els.length then(mapO (fun row=>mapO (lY L n0 f) row) ((els.drop 0).take rows.length)).map fun rows=>AV.is e rows else none
  |_=>none)=_
 rw[b];show(if n0<=id/\ver=ver/\0+rows.length<=els.length then(mapO (fun row=>mapO (lY L n0 f) row) ((els.drop 0).take rows.length)).map fun rows=>AV.is e rows else none)=_
 rw[pW2 ⟨c,rfl,by omega⟩,rK2,hl,rU2,i];rfl
theorem aB1 {d id ver e o:Nat} {bx:Bool} {ty:TypeId} {esz:Nat} {els:aA (aA AV)} {row:aA AV} (a:L id=some (.arr bx ty esz ver els)) (hr:els[e]? =some row):uW L (d+1) (.ptr id ver e o)=(mapO (uW L d) (row.drop o)).map AV.ip:=by
 simp[uW,a,hr]
theorem jU1 {d:Nat} {f:FuncId} {a b a' b':aA AV} (h1:mapO (uW L d) a=some a') (h2:mapO (uW L d) b=some b'):uW L (d+1) (.fn (.func f) a b)=some (.fn (.func f) a' b'):=by
 simp[uW,h1,h2]
theorem aC1 {d:Nat} {a a':aA AV} (h1:mapO (uW L d) a=some a'):uW L (d+1) (.agg a)=some (.agg a'):=by
 simp[uW,h1]
theorem gZ1 {x:PV} {y:AV} (h:RK x y):Ir L n0 y=some y:=by
 rcases h with h|⟨cs,cs',rfl,rfl,h⟩
 cases h<;>rfl;simp only[Ir,Be h,qR2]
theorem Vc {es:aA (PV×PV)} {es':aA (AV×AV)} (h:EM es es'):mapO (fun(k,x)=>match Ir L n0 k,Ir L n0 x with|some k,some x=>some (k,x)|_,_=>none) es'=some es':=
 vK fun p hp=>by
  obtain⟨j,c⟩:=qG2.1 hp
  have d:j<es.length:=by rw[h.1];exact(pO2.1 c).1
  obtain⟨h1,h2⟩:=h.2 j es[j] p (by simp) c
  obtain⟨a,b⟩:=p
  simp only[gZ1 h1,gZ1 h2]
end
section
variable {R:Type} {C:Cx} {n:Nat} {h:aQ} {lim:Nat} {s:Hp}
theorem Bf:∀{d:Nat} {x:PV} {y:AV},cY d x=true->RC false x y->Sim.closed d y=true
 |0,_,_,h,_=>by simp[cY]at h
 |d+1,x,y,hc,hr=>by
  have all:∀{xs:aA PV} {ys:aA AV},xs.all (cY d)=true->LR (RC false) xs ys->ys.all (Sim.closed d)=true:=by
   intro xs ys c hl;rw[pX2];intro y hy;obtain⟨x,a,b⟩:=Cz hl hy;exact Bf (pX2.1 c x a) b
  cases hr with
  |fn h1 h2 v1 v2=>
   simp only[cY,pN2]at hc;simp only[Sim.closed,pN2];exact⟨all hc.1 ⟨h1,v1⟩,all hc.2 ⟨h2,v2⟩⟩
  |agg hl hcc=>
   simp only[cY]at hc;simp only[Sim.closed];exact all hc ⟨hl,hcc⟩
  |tup hl hcc=>
   simp only[cY]at hc;simp only[Sim.closed];exact all hc ⟨hl,hcc⟩
  |_=>rfl
def FzR (L:Nat->aB AO) (d:Nat) (a:PV) (y:AV):Prop:=∃b,uW L d y=some b/\RC false a b/\∀D,Sim.closed D y=true->RC false a y
theorem Nh (m:cG C n h lim s):∀(d:Nat) (x:PV) (y:AV) (K:PV->aB R) (r:R),Cq h d x K=some r->RV C x y->∃M,K M=some r/\FzR (Sim.look s.h) (d+1) M y
 |0,x,y,K,r,hk,_=>by unfold Cq at hk;exact aD hk
 |d+1,x,y,K,r,hk,hv=>by
  have i:∀(xs:aA PV) (ys:aA AV) (K:aA PV->aB R) (r:R),oY (Cq h d) xs K=some r->LR (RV C) xs ys->
    ∃xs' j,K xs'=some r/\mapO (uW (Sim.look s.h) (d+1)) ys=some j/\LR (RC false) xs' j/\((∀y∈ys,∃D,Sim.closed D y=true)->LR (RC false) xs' ys):=by
   intro xs
   induction xs with
   |nil=>
    intro ys K r hk hl;rw[hl.inv_nil];unfold oY at hk;exact⟨[],[],hk,rfl,.nil,fun _=>.nil⟩
   |cons a as ih=>
    intro ys K r hk hl;obtain⟨y,j,rfl,h1,h2⟩:=hl.inv_cons;unfold oY at hk;obtain⟨a',w,b',t,N,O⟩:=Nh m d a y _ r hk h1;obtain⟨B,E,q1,q2,q3,q4⟩:=ih j _ r w h2;refine⟨a'::B,b'::E,q1,by simp only[mapO,t,q2],.cons N q3,fun hc=>?_⟩;obtain⟨D,c⟩:=hc y (by simp);exact .cons (O D c) (q4 fun z p=>hc z (by simp[p]))
  unfold Cq at hk;cases x with
  |own k=>
   simp only[eG,pM2]at hk;obtain⟨ob,hg,hk⟩:=hk;cases ob with
   |lst ty e g rows=>
    refine⟨_,hk,?_⟩;rcases kS hv with⟨id,ver,F,len,l,rfl⟩|⟨l,rfl⟩
    obtain⟨_,rfl,hlen,els,q,hr,G,_⟩:=iB m hg l;subst hlen;refine⟨.is F (els.take rows.length),?_,hr.is,fun D c=>by cases D<;>simp[Sim.closed]at c⟩;exact Nf (d:=4) (qJ2 _) q hr G;have:=jI m hg l;subst this;exact⟨_,rfl,.isn,fun _ _=>.isn⟩
   |lz ty e dp rows=>
    cases hb:Nat.ble dp 4 with
    |false=>simp only[hb,qS2]at hk;exact aD hk
    |true=>
    simp only[hb,qD2]at hk;have hb:=pY2 hb;refine⟨_,hk,?_⟩;rcases kS hv with⟨id,ver,F,len,l,rfl⟩|⟨l,rfl⟩
    obtain⟨_,_,rfl,hlen,_,els,q,hr⟩:=uO m hg l;subst hlen;obtain⟨A,w,t⟩:=gY1 (n0:=0) (f:=5) (fun id o p=>⟨qJ2 _,(m.hr.zr id o p).1⟩) (by omega) (qJ2 _) q hr;exact⟨.is F A,w,t.is,fun D c=>by cases D<;>simp[Sim.closed]at c⟩;have:=tF m hg l;subst this;exact⟨_,rfl,.isn,fun _ _=>.isn⟩
   |_=>exact aD hk
  |zs dp e rows=>
   cases hb:Nat.ble dp 5 with
   |false=>simp only[hb,qS2]at hk;exact aD hk
   |true=>
   simp only[hb,qD2]at hk;have hb:=pY2 hb;refine⟨_,hk,?_⟩;have p:=Aw hv;obtain⟨S,w,t⟩:=Ng (L:=Sim.look s.h) (n0:=0) (fun id o p=>⟨qJ2 _,(m.hr.zr id o p).1⟩) dp 6 (by omega) _ _ p;rcases Ax p with(⟨rows',rfl,hr⟩|⟨rfl,rfl⟩)|⟨d',id,ver,ty,els,_,rfl,_,_,_⟩
   exact⟨_,rfl,hr.is,fun _ _=>hr.is⟩;exact⟨_,rfl,.isn,fun _ _=>.isn⟩;exact⟨S,w,t.weak,fun D c=>by cases D<;>simp[Sim.closed]at c⟩
  |map k=>
   simp only[eG,pM2]at hk;obtain⟨ob,hg,hk⟩:=hk;cases ob with
   |mp es=>
    refine⟨_,hk,?_⟩;obtain⟨id,ver,e,len,l,rfl⟩:=tD hv;obtain⟨_,es',q,he⟩:=Gt m hg l;refine⟨.im es',?_,he.er.im,fun D c=>by cases D<;>simp[Sim.closed]at c⟩;simp only[uW,q];exact congrArg (Option.map AV.im) (Vc he)
   |_=>exact aD hk
  |ref k o=>
   simp only[eG,pM2]at hk;obtain⟨ob,hg,hk⟩:=hk;cases ob with
   |box cs=>
    obtain⟨w,t⟩:=dL _ _ _ _ hk;obtain⟨id,ver,e,len,l,rfl⟩:=iW hv;obtain⟨_,ty,esz,row,q,hl⟩:=pW m hg l;obtain⟨xs',j,q1,q2,q3,_⟩:=i _ _ _ r t (hl.drop o);refine⟨_,q1,.ip j,?_,.ip q3.1 q3.2,fun D c=>by cases D<;>simp[Sim.closed]at c⟩;rw[aB1 q rfl,q2];rfl
   |_=>exact aD hk
  |fn f a b=>
   obtain⟨a',b',rfl,h1,h2⟩:=uN hv;obtain⟨H,u,p1,p2,p3,p4⟩:=i _ _ _ r hk h1;obtain⟨P,J,q1,q2,q3,q4⟩:=i _ _ _ r p1 h2;refine⟨_,q1,.fn (.func f) u J,jU1 p2 q2,.fn p3.1 q3.1 p3.2 q3.2,fun D c=>?_⟩;cases D with
   |zero=>simp[Sim.closed]at c
   |succ D=>
    simp only[Sim.closed,pN2,pX2]at c;have w1:=p4 fun y hy=>⟨D,c.1 y hy⟩
    have w2:=q4 fun y hy=>⟨D,c.2 y hy⟩
    exact .fn w1.1 w2.1 w1.2 w2.2
  |agg cs=>
   obtain⟨cs',rfl,h1⟩:=lF hv;obtain⟨H,u,p1,p2,p3,p4⟩:=i _ _ _ r hk h1;refine⟨_,p1,.agg u,aC1 p2,.agg p3.1 p3.2,fun D c=>?_⟩;cases D with
   |zero=>simp[Sim.closed]at c
   |succ D=>
    simp only[Sim.closed,pX2]at c;have w1:=p4 fun y hy=>⟨D,c y hy⟩
    exact .agg w1.1 w1.2
  |v x=>
   rw[eQ hv];exact⟨_,hk,_,rfl,.v x,fun _ _=>.v x⟩
  |is e rows=>
   refine⟨_,hk,?_⟩;rcases xQ hv with⟨rows',rfl,hr⟩|⟨rfl,rfl⟩
   exact⟨_,rfl,hr.is,fun _ _=>hr.is⟩;exact⟨_,rfl,.isn,fun _ _=>.isn⟩
  |ip cs=>
   obtain⟨cs',rfl,hl⟩:=Av hv;exact⟨_,hk,_,rfl,.ip hl.1 hl.2,fun _ _=>.ip hl.1 hl.2⟩
  |im es=>
   obtain⟨es',rfl,he⟩:=gS1 hv;exact⟨_,hk,_,rfl,he.im,fun _ _=>he.im⟩
  |_=>exact aD hk
theorem uQ (e:cG C n h lim s):∀(xs:aA PV) (ys:aA AV) (K:aA PV->aB R) (r:R),vI h xs K=some r->LR (RV C) xs ys->
  ∃xs' b,K xs'=some r/\mapO (uW (Sim.look s.h) 6) ys=some b/\LR (RC false) xs' b/\((∀y∈ys,∃D,Sim.closed D y=true)->LR (RC false) xs' ys)
 |[],ys,K,r,hk,hl=>by
  rw[hl.inv_nil]
  exact⟨[],[],hk,rfl,.nil,fun _=>.nil⟩
 |a::as,ys,K,r,hk,hl=>by
  obtain⟨y,b,rfl,h1,h2⟩:=hl.inv_cons
  unfold vI at hk
  obtain⟨a',i,b',j,k,l⟩:=Nh e 5 a y _ r hk h1
  obtain⟨c,d,q1,q2,q3,q4⟩:=uQ e as b _ r i h2
  refine⟨a'::c,b'::d,q1,by simp only[mapO,j,q2],.cons k q3,fun hc=>?_⟩
  obtain⟨D,f⟩:=hc y (by simp)
  exact .cons (l D f) (q4 fun z g=>hc z (by simp[g]))
def lQ (T:gH) (f:FuncId) (xs:aA PV) (v:PV):Prop:=
 ∃ifn,T f=some ifn/\ifn.pure=true/\(sZ 4 v=true->ifn.frz=true)/\∀ys,LR (RC false) xs ys->∃D,∀d,D<=d->∃y,Sim.runP T (exec T d) f ifn ys=some y/\RC false v y
theorem Vd:∀{d:Nat} {x:PV} {y:AV},sZ d x=true->RC false x y->Sim.gnd d y=true
 |0,_,_,h,_=>by simp[sZ]at h
 |d+1,x,y,hc,hr=>by
  have all:∀{xs:aA PV} {ys:aA AV},xs.all (sZ d)=true->LR (RC false) xs ys->ys.all (Sim.gnd d)=true:=by
   intro xs ys c hl;rw[pX2];intro y hy;obtain⟨x,a,b⟩:=Cz hl hy;exact Vd (pX2.1 c x a) b
  cases hr with
  |v x=>rfl
  |agg hl hcc=>simp only[sZ]at hc;simp only[Sim.gnd];exact all hc ⟨hl,hcc⟩
  |tup hl hcc=>simp only[sZ]at hc;simp only[Sim.gnd];exact all hc ⟨hl,hcc⟩
  |_=>simp[sZ]at hc
theorem Gy {T:gH} {O:rL} (u:∀f xs v,O f xs=some v->lQ T f xs v) (w:cG C n h lim s) {f:FuncId} {xs:aA PV} {ys:aA AV} {K:PV->aB R} {r:R} (hk:uK O f xs h K=some r) (p:LR (RV C) xs ys):
  ∃v y,K v=some r/\RC false v y/\(∃ifn,T f=some ifn/\ifn.pure=true)/\∃D,∀d,D<=d->∀m,Sim.callF T (exec T d) lim f ys {h:=s.h,n:=m}=some (y,{h:=s.h,n:=m}):=by
 unfold uK at hk;by_cases hc:xs.all (cY 4)=true;rw[hc,qD2,bO,pM2]at hk;obtain⟨v,hv,hk⟩:=hk;rw[Mw]at hk;obtain⟨ifn,h1,h2,t,l⟩:=u f xs v hv;have i:LR (RC false) xs ys:=⟨p.1,fun j x y a b=>Bb (p.2 j x y a b) (pX2.1 hc x (pZ2 a))⟩
 have c:ys.all (Sim.closed 4)=true:=by
  rw[pX2];intro y hy;obtain⟨x,z,A⟩:=Cz i hy;exact Bf (pX2.1 hc x z) A
 obtain⟨D,g⟩:=l ys i;obtain⟨y,k,e⟩:=g D (pQ2 _);refine⟨v,y,hk,e,⟨ifn,h1,h2⟩,D,fun d hd m=>?_⟩;simp only[Sim.callF,h1,h2,qQ2,c,Sim.mono_runP (Sim.mono_le T hd) k,qR2];simp only[tA2]at hc;rw[hc,qS2]at hk;obtain⟨xs',q,q1,q2,q3,q4⟩:=uQ w xs ys _ r hk p;rw[bO,pM2]at q1;obtain⟨v,hv,q1⟩:=q1;rw[Mw]at q1;cases hg:sZ 4 v with
 |false=>rw[hg]at q1;exact aD q1
 |true=>
  rw[hg,qD2]at q1;obtain⟨ifn,h1,h2,t,l⟩:=u f xs' v hv;by_cases c:ys.all (Sim.closed 4)=true;obtain⟨D,g⟩:=l ys (q4 fun y hy=>⟨4,pX2.1 c y hy⟩);obtain⟨y,k,e⟩:=g D (pQ2 _);refine⟨v,y,q1,e,⟨ifn,h1,h2⟩,D,fun d hd m=>?_⟩;simp only[Sim.callF,h1,h2,qQ2,c,Sim.mono_runP (Sim.mono_le T hd) k,qR2];obtain⟨D,g⟩:=l q q3;obtain⟨y,k,e⟩:=g D (pQ2 _);have o:=Vd hg e;refine⟨v,y,q1,e,⟨ifn,h1,h2⟩,D,fun d hd m=>?_⟩;simp only[Sim.callF,h1,h2,t hg,qQ2,q2,Sim.mono_runP (Sim.mono_le T hd) k,o];rw[pT2 c]
end
end Go.P
namespace Go.P
open Go.Sim (AV AO Hp eY upd St IC IX Ex dW CK Wf Out doOp gH exec)
section
variable {R:Type} {C:Cx} {n:Nat} {h:aQ} {lim:Nat} {s:Hp}
def jK (k:Nat) (C C':Cx):Prop:=(∀j,j≠k->C' j=C j)/\∀id o,C.z id=some o->C'.z id=some o
theorem Gz {C':Cx} {k:Nat} (m:jK k C C'):∀(d:Nat) (x:PV) (y:AV) (K:PV->aB R) (r:R),dE k d x K=some r->RV C x y->∃q,K q=some r/\RV C' q y
 |0,x,y,K,r,hk,_=>by unfold dE at hk;exact⟨_,hk,.undef⟩
 |d+1,x,y,K,r,hk,hv=>by
  have c:∀(xs:aA PV) (ys:aA AV) (K:aA PV->aB R) (r:R),dE.kills k d xs K=some r->LR (RV C) xs ys->∃xs',K xs'=some r/\LR (RV C') xs' ys:=by
   intro xs
   induction xs with
   |nil=>
    intro ys K r hk hl;rw[hl.inv_nil];unfold dE.kills at hk;exact⟨[],hk,.nil⟩
   |cons a as ih=>
    intro ys K r hk hl;obtain⟨y,p,rfl,h1,h2⟩:=hl.inv_cons;unfold dE.kills at hk;obtain⟨a',t,u⟩:=Gz m d a y _ r hk h1;obtain⟨n,q1,q2⟩:=ih p _ r t h2;exact⟨a'::n,q1,.cons u q2⟩
  have other:∀{pl:aB Pl} {j:Nat},C j=pl->j≠k->C' j=pl:=fun h s=>(m.1 _ s).trans h;unfold dE at hk;cases x with
  |zs d e rows=>exact⟨_,hk,.zs (RZ.mono m.2 (Aw hv))⟩
  |zm es=>
   rcases gT1 hv with⟨id,es',rfl,h1,h2⟩|⟨rfl,rfl⟩
   exact⟨_,hk,.zm (m.2 _ _ h1) h2⟩;exact⟨_,hk,.zm0⟩
  |own j=>
   simp only[bJ]at hk;by_cases e:j=k;rw[qP2 e]at hk;exact⟨_,hk,.undef⟩;rw[qW2 e]at hk;refine⟨_,hk,?_⟩;rcases kS hv with⟨id,ver,l,len,hc,rfl⟩|⟨hc,hy⟩
   exact .own (other hc e);exact .ownn (other hc e) hy
  |el j i o=>
   simp only[bJ]at hk;by_cases e:j=k;rw[qP2 e]at hk;exact⟨_,hk,.undef⟩;rw[qW2 e]at hk;obtain⟨id,ver,l,len,hc,rfl⟩:=xR hv;exact⟨_,hk,.el (other hc e)⟩
  |fn f a b=>
   obtain⟨a',b',rfl,h1,h2⟩:=uN hv;obtain⟨g,p1,p2⟩:=c _ _ _ r hk h1;obtain⟨w,q1,q2⟩:=c _ _ _ r p1 h2;exact⟨_,q1,.fn p2.1 q2.1 p2.2 q2.2⟩
  |agg cs=>
   obtain⟨cs',rfl,h1⟩:=lF hv;obtain⟨g,p1,p2⟩:=c _ _ _ r hk h1;exact⟨_,p1,.agg p2.1 p2.2⟩
  |tup cs=>
   obtain⟨cs',rfl,h1⟩:=Kf hv;obtain⟨g,p1,p2⟩:=c _ _ _ r hk h1;exact⟨_,p1,.tup p2.1 p2.2⟩
  |ref j o=>
   simp only[bJ]at hk;by_cases e:j=k;rw[qP2 e]at hk;exact⟨_,hk,.undef⟩;rw[qW2 e]at hk;obtain⟨id,ver,l,len,hc,rfl⟩:=iW hv;exact⟨_,hk,.ref (other hc e)⟩
  |map j=>
   simp only[bJ]at hk;by_cases e:j=k;rw[qP2 e]at hk;exact⟨_,hk,.undef⟩;rw[qW2 e]at hk;obtain⟨id,ver,l,len,hc,rfl⟩:=tD hv;exact⟨_,hk,.map (other hc e)⟩
  |yld j=>
   simp only[bJ]at hk;by_cases e:j=k;rw[qP2 e]at hk;exact⟨_,hk,.undef⟩;rw[qW2 e]at hk;obtain⟨id,ver,l,len,hc,rfl⟩:=Cu hv;exact⟨_,hk,.yld (other hc e)⟩
  |v x=>rw[eQ hv];exact⟨_,hk,.cl (.v x)⟩
  |is e rows=>exact⟨_,hk,.cl (by cases hv with|cl h=>exact h)⟩
  |ip cs=>exact⟨_,hk,.cl (by cases hv with|cl h=>exact h)⟩
  |im es=>exact⟨_,hk,.cl (by cases hv with|cl h=>exact h)⟩
  |undef=>exact⟨_,hk,.undef⟩
theorem Ha {k:Nat}:∀(d:Nat) (x:PV) (K:PV->aB R) (r:R),dE k d x K=some r->∃g,K g=some r/\∀{C C':Cx} {y:AV},jK k C C'->RV C x y->RV C' g y
  |d,x,K,r,hk=>by
    have n:∃g,(∀{R:Type} (K:PV->aB R),dE k d x K=K g):=by
      have q:∀(d:Nat) (x:PV),∃g,∀{R:Type} (K:PV->aB R),dE k d x K=K g:=by
        intro d
        induction d with
        |zero=>intro x;exact⟨.undef,fun K=>by unfold dE;rfl⟩
        |succ d ih=>
          have c:∀(xs:aA PV),∃xs',∀{R:Type} (K:aA PV->aB R),dE.kills k d xs K=K xs':=by
            intro xs
            induction xs with
            |nil=>exact⟨[],fun K=>by unfold dE.kills;rfl⟩
            |cons a as ihl=>
              obtain⟨a',h⟩:=ih a;obtain⟨m,p⟩:=ihl;exact⟨a'::m,fun K=>by unfold dE.kills;rw[h,p]⟩
          intro x;cases x with
          | own j => by_cases e:j=k
                     exact⟨.undef,fun K=>by unfold dE;simp[bJ,e]⟩;exact⟨.own j,fun K=>by unfold dE;simp[bJ,e]⟩
          | el j i o => by_cases e:j=k
                        exact⟨.undef,fun K=>by unfold dE;simp[bJ,e]⟩;exact⟨.el j i o,fun K=>by unfold dE;simp[bJ,e]⟩
          | ref j o => by_cases e:j=k
                       exact⟨.undef,fun K=>by unfold dE;simp[bJ,e]⟩;exact⟨.ref j o,fun K=>by unfold dE;simp[bJ,e]⟩
          |zs d e rows=>exact⟨.zs d e rows,fun K=>by unfold dE;rfl⟩
          |zm es=>exact⟨.zm es,fun K=>by unfold dE;rfl⟩
          | map j => by_cases e:j=k
                     exact⟨.undef,fun K=>by unfold dE;simp[bJ,e]⟩;exact⟨.map j,fun K=>by unfold dE;simp[bJ,e]⟩
          | yld j => by_cases e:j=k
                     exact⟨.undef,fun K=>by unfold dE;simp[bJ,e]⟩;exact⟨.yld j,fun K=>by unfold dE;simp[bJ,e]⟩
          |fn f a b=>
            obtain⟨a',h⟩:=c a;obtain⟨b',hb⟩:=c b;exact⟨.fn f a' b',fun K=>by unfold dE;simp only[h,hb]⟩
          |agg cs=>
            obtain⟨a',h⟩:=c cs;exact⟨.agg a',fun K=>by unfold dE;simp only[h]⟩
          |tup cs=>
            obtain⟨a',h⟩:=c cs;exact⟨.tup a',fun K=>by unfold dE;simp only[h]⟩
          |v x=>exact⟨.v x,fun K=>by unfold dE;rfl⟩
          |is e rows=>exact⟨.is e rows,fun K=>by unfold dE;rfl⟩
          |ip cs=>exact⟨.ip cs,fun K=>by unfold dE;rfl⟩
          |im es=>exact⟨.im es,fun K=>by unfold dE;rfl⟩
          |undef=>exact⟨.undef,fun K=>by unfold dE;rfl⟩
      exact q d x
    obtain⟨g,l⟩:=n;refine⟨g,by rw[<-hk];exact(l K).symm,fun{C C' y} s hv=>?_⟩;obtain⟨t,h1,h2⟩:=Gz (R:=PV) s d x y some g (l some) hv;cases h1;exact h2
def oU1 (k:Nat) (e e':dY):Prop:=∀i v',dQ e' i=some v'->∃v,dQ e i=some v/\∀{C C':Cx} {y:AV},jK k C C'->RV C v y->RV C' v' y
theorem iK {k:Nat}:∀(e:dY) (K:dY->aB R) (r:R),mS k e K=some r->∃e',K e'=some r/\oU1 k e e'
 |[],K,r,hk=>⟨[],hk,fun i v h=>by simp[dQ]at h⟩
 |(j,v)::t,K,r,hk=>by
  unfold mS at hk
  obtain⟨v',a,c⟩:=Ha 3 v _ r hk
  obtain⟨b,q1,q2⟩:=iK t _ r a
  refine⟨(j,v')::b,q1,fun i w hw=>?_⟩
  simp only[dQ]at hw ⊢
  split at hw
  grind
  rename_i e;rw[pT2 e];exact q2 i w hw
def yA (k:Nat) (h h':aQ):Prop:=(∀j,aL h' j=none↔aL h j=none)/\∀j o',aL h' j=some o'->∃o,aL h j=some o/\eM o'=eM o/\
 ∀{C C':Cx} {L:Nat->aB AO} {lim nS:Nat} {pl:Pl},jK k C C'->iH C L lim nS o pl->iH C' L lim nS o' pl
theorem yB {k d:Nat}:∀(xs:aA PV) (K:aA PV->aB R) (r:R),dE.kills k d xs K=some r->∃xs',K xs'=some r/\∀{C C':Cx} {ys:aA AV},jK k C C'->LR (RV C) xs ys->LR (RV C') xs' ys
 |[],K,r,hk=>by
  unfold dE.kills at hk
  exact⟨[],hk,fun _ hl=>by rw[hl.inv_nil];exact .nil⟩
 |a::as,K,r,hk=>by
  unfold dE.kills at hk
  obtain⟨a',e,f⟩:=Ha d a _ r hk
  obtain⟨b,q1,q2⟩:=yB as _ r e
  refine⟨a'::b,q1,fun c hl=>?_⟩
  obtain⟨y,g,rfl,h1,h2⟩:=hl.inv_cons
  exact .cons (f c h1) (q2 c h2)
theorem jV1 {C C':Cx} {fs b:aA PV} {els:aA (aA AV)} (h:∀{ys:aA AV},LR (RV C) fs ys->LR (RV C') b ys) (hl:els.length=fs.length) (hr:∀(i:Nat) (f:PV) (row:aA AV),fs[i]? =some f->els[i]? =some row->LR (RV C) [f] row):
  fs.length=b.length/\els.length=b.length/\∀(i:Nat) (f:PV) (row:aA AV),b[i]? =some f->els[i]? =some row->LR (RV C') [f] row:=by
 have hy:=h (ys:=els.map fun r=>r.headD default) ⟨by simp[hl],fun j x y l hy=>by
  simp only[qU2,pP2]at hy;obtain⟨row,a,rfl⟩:=hy;obtain⟨y,e,rfl,g,k⟩:=(hr j x row l a).inv_cons;exact g⟩
 have hlen:b.length=els.length:=by simpa using hy.1
 refine⟨by omega,by omega,fun i f row hf a=>?_⟩
 have d:∃f0,fs[i]? =some f0:=by
  have:=(pO2.1 a).1;exact⟨fs[i]'(by omega),by simp⟩
 obtain⟨f0,c⟩:=d;obtain⟨y,e,rfl,g,k⟩:=(hr i f0 row c a).inv_cons;rw[k.inv_nil];exact .cons (hy.2 i f y hf (by simp[qU2,a])) .nil
theorem jQ {k:Nat}:∀(h:aQ) (K:aQ->aB R) (r:R),iR k h K=some r->∃h',K h'=some r/\yA k h h'
 |[],K,r,hk=>⟨[],hk,fun j=>Iff.rfl,fun j o h=>by simp[aL]at h⟩
 |(j,o)::t,K,r,hk=>by
  have fin:∀(o':fP),iR k t (fun r=>K ((j,o')::r))=some r->eM o'=eM o->(∀{C C':Cx} {L:Nat->aB AO} {lim nS:Nat} {pl:Pl},jK k C C'->iH C L lim nS o pl->iH C' L lim nS o' pl)->∃h',K h'=some r/\yA k ((j,o)::t) h':=by
   intro o' hk hb d;obtain⟨z,q1,q2,q3⟩:=jQ t _ r hk;refine⟨(j,o')::z,q1,fun i=>?_,fun i w hw=>?_⟩;simp only[aL];split;simp;exact q2 i;simp only[aL]at hw ⊢;split at hw
   grind
   grind
  unfold iR at hk;cases o with
  |box cs=>
   obtain⟨cs',q,s⟩:=yB cs _ r hk;refine fin _ q rfl (fun{C C' L lim nS pl} f d=>?_);cases pl with
   |nil=>exact d
   |atp id ver e len=>
    obtain⟨h1,h2,ty,esz,row,l,m⟩:=d;exact⟨h1,h2,ty,esz,row,l,s f m⟩
  |lst ty e g rows=>exact fin _ hk rfl (fun{C C' L lim nS pl} f d=>by cases pl<;>exact d)
  |lz ty e dp rows=>
   refine fin _ hk rfl (fun{C C' L lim nS pl} f d=>?_);cases pl with
   |nil=>exact d
   |atp id ver e3 len=>
    obtain⟨h1,h2,l,m,n,els,p,u⟩:=d;exact⟨h1,h2,l,m,n,els,p,u.mono f.2⟩
  |mp es=>exact fin _ hk rfl (fun{C C' L lim nS pl} f d=>by cases pl<;>exact d)
  |fl fs=>
   obtain⟨x,q,s⟩:=yB fs _ r hk;refine fin _ q rfl (fun{C C' L lim nS pl} f d=>?_);cases pl with
   |nil=>exact d
   |atp id ver e len=>
    obtain⟨h1,h2,l,m,ty,els,n,p,u⟩:=d;obtain⟨a,b,c⟩:=jV1 (s f) p u;exact⟨h1,h2,l,by rw[m,a],ty,els,n,b,c⟩
  |loop N e ps a b busy fi=>
   obtain⟨e',q,s⟩:=iK e _ r hk;refine fin _ q rfl (fun{C C' L lim nS pl} f d=>?_);cases pl with
   |nil=>exact d
   |atp id ver e3 len=>
    obtain⟨h1,h2,st,pend,tmps,l,m,n,p⟩:=d;refine⟨h1,h2,st,pend,tmps,l,m,fun i v hv=>?_,p⟩;obtain⟨w,w1,w2⟩:=s i v hv;obtain⟨y,A,B⟩:=n i w w1;exact⟨y,A,w2 f B⟩
theorem Ve (c:cG C n h lim s) {e:Nat} {x:PV} {y:AV} {K:aA (aA PV)->aB R} {r:R} (hk:Uf h e x K=some r) (hv:RV C x y):∃rows rows',K rows=some r/\Sim.rowsOf (Sim.look s.h) e y=some rows'/\RR rows rows':=by
 unfold Uf at hk;split at hk;rename_i e' rows;rw[bJ]at hk;by_cases a:e'=e;subst a;rw[qP2 rfl,qD2]at hk;rcases Mz hv with⟨rows',rfl,hr⟩|⟨rfl,rfl|rfl⟩
 exact⟨rows,rows',hk,by simp[Sim.rowsOf],hr⟩;exact⟨[],[],hk,rfl,.nil⟩;exact⟨[],[],hk,rfl,.nil⟩
 grind
 rename_i k;simp only[eG,pM2]at hk;obtain⟨ob,hg,hk⟩:=hk;cases ob with
 |lst ty e' g rows=>
  simp only[bJ]at hk;by_cases a:e'=e;subst a;rw[qP2 rfl,qD2]at hk;rcases gQ hv with⟨id,ver,i,len,b,rfl⟩|⟨b,hy⟩
  obtain⟨_,rfl,hlen,els,d,hr,f,_⟩:=iB c hg b;subst hlen;refine⟨rows,els.take rows.length,hk,?_,hr⟩;simp only[Sim.rowsOf,d];rw[pW2 ⟨by trivial,by trivial,by omega⟩,rK2];have:=jI c hg b;subst this;rcases hy with rfl|rfl;exact⟨[],[],hk,rfl,.nil⟩;exact⟨[],[],hk,rfl,.nil⟩
  grind
 |_=>exact aD hk
 rw[eQ hv];exact⟨[],[],hk,rfl,.nil⟩;exact aD hk
def mv (C:Cx) (k:Nat) (pl:Pl):Cx:=⟨fun j=>if j=k then some pl else C j,C.z⟩
theorem fJ (C:Cx) (k:Nat) (pl:Pl):jK k C (mv C k pl):=⟨fun j a=>pT2 a,fun _ _ h=>h⟩
theorem pH (C:Cx) (k:Nat) (pl:Pl):mv C k pl k=some pl:=pW2 rfl
theorem jK.self {k:Nat} {C:Cx}:jK k C C:=⟨fun _ _=>rfl,fun _ _ h=>h⟩
theorem Da {k:Nat} {po po':fP} {h1:aQ} {C':Cx} (hg:aL h k=some po) (hkl:yA k h h1) (hb:eM po'=false) (c:jK k C C'):
  ∀j o,aL h j=some o->∃o',aL (eF h1 k po') j=some o'/\(eM o'=true->eM o=true/\C' j=C j):=by
 intro j o a
 have d:(aL h1 k).isSome=true:=by
  cases hc:aL h1 k with
  |none=>rw[(hkl.1 k).1 hc]at hg;cases hg
  |some o=>rfl
 rw[fC];by_cases b:j=k
 grind
 rw[pT2 (fun h=>b h.1)];cases hc:aL h1 j with
 |none=>rw[(hkl.1 j).1 hc]at a;cases a
 |some o'=>
  obtain⟨f,q1,e,_⟩:=hkl.2 j o' hc;rw[a]at q1;cases q1;exact⟨o',rfl,fun h=>⟨by rw[<-e];exact h,c.1 j b⟩⟩
theorem Hb (p:cG C n h lim s) {k id ver e len} {po po2:fP} {h1:aQ} {s':Hp} (hg:aL h k=some po) (hkl:yA k h h1)
  (hs:s.n<=s'.n) (hw:Wf s'.h s'.n) (A:Sk s.h s'.h s.n) (b:∀i,i<s.n->i≠id->Sim.look s'.h i=Sim.look s.h i) (a:s.n<=id\/∃v e l,C k=some (.atp id v e l))
  (F:iH (mv C k (.atp id ver e len)) (Sim.look s'.h) lim s'.n po2 (.atp id ver e len)) (hfx:eM po2=false):
  cG (mv C k (.atp id ver e len)) n (eF h1 k po2) lim s'/\Fr C h s (mv C k (.atp id ver e len)) (eF h1 k po2) s':=by
 have y:(aL h1 k).isSome=true:=by
  cases hc:aL h1 k with
  |none=>rw[(hkl.1 k).1 hc]at hg;cases hg
  |some o=>rfl
 have f:∀j,aL (eF h1 k po2) j=if j=k then some po2 else aL h1 j:=fun j=>by
  rw[fC];simp[y]
 have c:∀j,aL (eF h1 k po2) j≠none->aL h j≠none:=fun j d=>by
  rw[f]at d;split at d
  grind
  exact fun hc=>d ((hkl.1 j).2 hc)
 have g:∀j v e l,j≠k->aL h j≠none->C j≠some (.atp id v e l):=by
  intro j v e2 l d D hc;rcases a with a|⟨v',e',l',a⟩
  have:=(p.hr.lt D hc).2;omega;exact d (p.hr.inj j k id _ _ _ _ _ _ D (by rw[hg];simp) hc a)
 refine⟨⟨⟨fun j o d=>?_,fun j q i v1 m x v2 e2 H a1 a2 a3 a4=>?_,fun i o G=>?_⟩,fun j pl d=>?_,hw,qT2 p.lim hs⟩,⟨A,hs,fun i hi z=>b i hi (fun m=>z ?_),fun i hi z=>?_,Da hg hkl hfx (fJ C k _),fun _ _ h=>h,fun _ _ h=>.inl h⟩⟩;rw[f]at d;split at d;rename_i m;subst m;cases d;exact⟨_,pH C j _,F⟩;rename_i u;obtain⟨J,q1,K,q2⟩:=hkl.2 j o d;obtain⟨pl,t,w⟩:=p.hr.ob j J q1;refine⟨pl,((fJ C k _).1 j u).trans t,?_⟩;have E:iH (mv C k (.atp id ver e len)) (Sim.look s.h) lim s.n o pl:=q2 (fJ C k _) w;refine E.mono hs (.refl _) (fun i v1 m x hp=>?_);subst hp;exact b i E.lt.2 (fun e2=>by subst e2;exact g j _ _ _ u (by rw[q1];simp) t);by_cases b1:j=k;by_cases b2:q=k;rw[b1,b2];exfalso;subst b1;rw[pH]at a3;cases a3;rw[(fJ C j _).1 q b2]at a4;exact g q _ _ _ b2 (c q a2) a4;by_cases b2:q=k;exfalso;subst b2;rw[pH]at a4;cases a4;rw[(fJ C q _).1 j b1]at a3;exact g j _ _ _ b1 (c j a1) a3;rw[(fJ C k _).1 j b1]at a3;rw[(fJ C k _).1 q b2]at a4;exact p.hr.inj j q i v1 m x v2 e2 H (c j a1) (c q a2) a3 a4;obtain⟨z1,z2,z3,z4⟩:=p.hr.zr i o G;have r:i≠id:=fun m=>by grind
 refine⟨(b i z2 r).trans z1,rT2 z2 hs,fun j v e' l h1 h2=>?_,z4⟩;by_cases b1:j=k;subst b1;rw[pH]at h2;cases h2;exact r rfl;exact z3 j v e' l (c j h1) (((fJ C k _).1 j b1).symm.trans h2);by_cases b1:j=k;subst b1;obtain⟨B,t,_⟩:=p.hr.ob j _ hg;exact p.dom j B t;exact p.dom j pl (((fJ C k _).1 j b1).symm.trans d);subst m;rcases a with a|⟨v',e',l',a⟩
 omega;exact⟨k,v',e',l',by rw[hg];simp,a⟩;obtain⟨j,v1,m,x,t,w⟩:=z;by_cases b1:j=k;subst b1;rw[pH]at w;cases w;rcases a with a|⟨v',e',l',a⟩
 omega;exact⟨j,v',e',l',by rw[hg];simp,a⟩;exact⟨j,v1,m,x,c j t,((fJ C k _).1 j b1).symm.trans w⟩
end
end Go.P
namespace Go.P
open Go.Sim (AV AO Hp eY upd St IC IX Ex dW CK Wf Out doOp gH exec)
theorem cV.mono {C C':Cx} {e:dY} {t:aA AV} (h:cV C e t) (a:C.le C'):cV C' e t:=fun i v hv=>by
 obtain⟨y,h1,h2⟩:=h i v hv
 exact⟨y,h1,h2.mono a⟩
theorem cV.put {C':Cx} {e':dY} {t:aA AV} {d:Nat} {v:PV} {y:AV} (hd:d<t.length) (hv:RV C' v y) (he:∀i w,dQ e' i=some w->∃z,t[i]? =some z/\RV C' w z/\i≠d):cV C' ((d,v)::e') (t.set d y):=by
 intro i w hw;simp only[dQ]at hw;split at hw
 grind
 grind
theorem cV.edel {C:Cx} {e:dY} {t:aA AV} (h:cV C e t) (is:aA Nat):∀i w,dQ (edel e is) i=some w->∃z,t[i]? =some z/\RV C w z/\i∉is:=fun i w hw=>by
 rw[tB]at hw
 split at hw
 cases hw
 rename_i hi
 obtain⟨z,h1,h2⟩:=h i w hw
 exact⟨z,h1,h2,hi⟩
section
variable {R:Type} {C:Cx} {n:Nat} {h:aQ} {lim:Nat} {s:Hp}
theorem Ni (d:cG C n h lim s) {k:Nat} {po:fP} {h1:aQ} (hg:aL h k=some po) (hkl:yA k h h1) (hb:eM po=false):cG C n (eF h1 k po) lim s/\Fr C h s C (eF h1 k po) s:=by
 have g:(aL h1 k).isSome=true:=by
  cases hc:aL h1 k with
  |none=>rw[(hkl.1 k).1 hc]at hg;cases hg
  |some o=>rfl
 have a:∀j,aL (eF h1 k po) j=if j=k then some po else aL h1 j:=fun j=>by
  rw[fC];simp[g]
 have b:∀j,aL (eF h1 k po) j≠none->aL h j≠none:=fun j c=>by
  rw[a]at c;split at c
  grind
  exact fun hc=>c ((hkl.1 j).2 hc)
 refine⟨⟨⟨fun j o c=>?_,fun j r i v1 f q v2 e2 w a1 a2 a3 a4=>d.hr.inj j r i v1 f q v2 e2 w (b j a1) (b r a2) a3 a4,fun i o u=>?_⟩,d.dom,d.wf,d.lim⟩,⟨.refl _ _,pQ2 _,fun _ _ _=>rfl,fun i hi t=>?_,Da hg hkl hb jK.self,fun _ _ h=>h,fun _ _ h=>.inl h⟩⟩;rw[a]at c;split at c;rename_i f;subst f;cases c;exact d.hr.ob j _ hg;obtain⟨x,q1,y,q2⟩:=hkl.2 j o c;obtain⟨pl,m,p⟩:=d.hr.ob j x q1;exact⟨pl,m,q2 jK.self p⟩;obtain⟨z1,z2,z3,z4⟩:=d.hr.zr i o u;exact⟨z1,z2,fun j v e l h1 h2=>z3 j v e l (b j h1) h2,z4⟩;obtain⟨j,v1,f,q,m,p⟩:=t;exact⟨j,v1,f,q,b j m,p⟩
theorem Qf (c:cG C n h lim s) {e dp:Nat} {x:PV} {y:AV} {K:aA (aA PV)->aB R} {r:R} (hk:Mp h e dp x K=some r) (hv:RV C x y):∃rows rows',K rows=some r/\Sim.rowsOf (Sim.look s.h) e y=some rows'/\Ar C.z dp rows rows':=by
 unfold Mp at hk;split at hk;rename_i e' rows;rw[bJ]at hk;by_cases a:e'=e;subst a;rw[qP2 rfl,qD2]at hk;rcases Mz hv with⟨rows',rfl,hr⟩|⟨rfl,rfl|rfl⟩
 exact⟨rows,rows',hk,by simp[Sim.rowsOf],hr.z⟩;exact⟨[],[],hk,rfl,.nil⟩;exact⟨[],[],hk,rfl,.nil⟩
 grind
 rename_i k;simp only[eG,pM2]at hk;obtain⟨ob,hg,hk⟩:=hk;cases ob with
 |lst ty e' g rows=>
  simp only[bJ]at hk;by_cases a:e'=e;subst a;rw[qP2 rfl,qD2]at hk;rcases gQ hv with⟨id,ver,i,len,b,rfl⟩|⟨b,hy⟩
  obtain⟨_,rfl,hlen,els,f,hr,j,_⟩:=iB c hg b;subst hlen;refine⟨rows,els.take rows.length,hk,?_,hr.z⟩;simp only[Sim.rowsOf,f];rw[pW2 ⟨by trivial,by trivial,by omega⟩,rK2];have:=jI c hg b;subst this;rcases hy with rfl|rfl;exact⟨[],[],hk,rfl,.nil⟩;exact⟨[],[],hk,rfl,.nil⟩
  grind
 |lz ty e' dp' rows=>
  simp only at hk;cases hc:(Nat.beq e' e&&Nat.ble dp' dp)with
  |false=>rw[hc]at hk;exact aD hk
  |true=>
   rw[hc,qD2]at hk;simp only[pN2]at hc;have a:=qF2 hc.1;have e2:=pY2 hc.2;subst a;rcases gQ hv with⟨id,ver,i,len,b,rfl⟩|⟨b,hy⟩
   obtain⟨_,_,rfl,hlen,_,els,f,hr⟩:=uO c hg b;subst hlen;refine⟨rows,els,hk,?_,hr.up e2⟩;have hl:=hr.1;simp only[Sim.rowsOf,f];rw[pW2 ⟨by trivial,by trivial,by omega⟩,rK2,hl,rU2];have:=tF c hg b;subst this;rcases hy with rfl|rfl;exact⟨[],[],hk,rfl,.nil⟩;exact⟨[],[],hk,rfl,.nil⟩
 |_=>exact aD hk
 rename_i d e' rows;cases hc:(Nat.beq e' e&&Nat.ble d (dp+1))with
 |false=>rw[hc]at hk;exact aD hk
 |true=>
  rw[hc,qD2]at hk;simp only[pN2]at hc;have a:=qF2 hc.1;have e2:=pY2 hc.2;subst a;rcases Ax (Aw hv)with(⟨rows',rfl,hr⟩|⟨rfl,rfl⟩)|⟨d',id,ver,ty,els,rfl,rfl,hz,hl,hr⟩
  exact⟨rows,rows',hk,by simp[Sim.rowsOf],hr.z⟩;exact⟨[],[],hk,rfl,.nil⟩;refine⟨rows,els.take rows.length,hk,?_,hr.up (by omega)⟩;simp only[Sim.rowsOf,(c.hr.zr id _ hz).1];rw[pW2 ⟨by trivial,by trivial,by omega⟩,rK2]
 rw[eQ hv];exact⟨[],[],hk,rfl,.nil⟩;exact aD hk
theorem Vf (l:cG C n h lim s) {e:dY} {t:aA AV} {d ty es b k ty' es' dp:Nat} {rows:aA (aA PV)} {zero:aA Value} {kill:aA Nat} {V:PV} {A S:AV} {K:dY->aQ->aB R} {r:R} (he:cV C e t) (hd:d<t.length) (h1:RV C (.own k) A) (h2:RV C V S)
  (hg:aL h k=some (.lz ty' es' dp rows))
  (hk:(Mp h es dp V fun new=>bif Nat.beq es' es&&(Nat.beq ty' ty&& !(fM ty'))then bU (appRows false rows new) fun rows=>
    gL e (d::kill) fun e=>mS k e fun e=>iR k h fun h=>fY h k (.lz ty' es' dp rows) fun h=>K ((d,.own k)::e) h
   else none)=some r):
  ∃C' e' h' out,K e' h'=some r/\doOp (Sim.look s.h) lim s.n (.append ty es b zero false) [A,S]=some out/\cG C' n h' lim (out.apply s)/\cV C' e' (t.set d out.v)/\Fr C h s C' h' (out.apply s):=by
 have hz:=Qf l hk h2;clear hk;obtain⟨new,a,hk,O,o⟩:=hz;by_cases hc:(Nat.beq es' es&&(Nat.beq ty' ty&& !(fM ty')))=true;simp only[hc,qD2,bO,pM2]at hk;simp only[pN2,bJ,pU2,qH2]at hc;obtain⟨rfl,rfl,hfx⟩:=hc;obtain⟨y,c,hk⟩:=hk;rw[dR]at hk;obtain⟨e2,hk,M⟩:=iK _ _ _ hk;obtain⟨X,hk,u⟩:=jQ _ _ _ hk;have hk:=dM _ _ _ _ _ hk;unfold appRows at c;split at c;rename_i P;obtain rfl:rows++new=y:=rX2 c
 have m:∀{C':Cx},jK k C C'->∀i w,dQ e2 i=some w->∃z,t[i]? =some z/\RV C' w z/\i≠d:=by
  intro C' j i w hw;obtain⟨v,q1,q2⟩:=M i w hw;obtain⟨z,p1,p2,p3⟩:=he.edel (d::kill) i v q1;exact⟨z,p1,q2 j p2,fun W=>p3 (by simp[W])⟩
 have q:∀out,Sim.appendTo (Sim.look s.h) lim s.n ty' es' A a=some out->(∀z id ver off len cap,out.v=.sl z id ver off len cap->len<=Sim.maxRoom)->doOp (Sim.look s.h) lim s.n (.append ty' es' b zero false) [A,S]=some out:=by
  intro out Y hl;simp only[doOp,Sim.appRows,qA2,qX2,O,Y];split;rename_i hv;rw[pW2 ⟨hl _ _ _ _ _ _ hv,by rw[<-o.1];omega⟩];rfl
 have hlen:=o.1;by_cases D:a=[];subst D;have E:new=[]:=by simpa using hlen
 subst E;rw[sP2]at hk;obtain⟨F,G⟩:=Ni l hg u rfl;refine⟨C,_,_,{v:=A},hk,q _ ?_ ?_,F,.put hd h1 (m jK.self),G⟩;rcases gQ h1 with⟨id,ver,g,len,j,rfl⟩|⟨j,hy⟩
 obtain⟨f,_,rfl,hl,_,els,H,hr⟩:=uO l hg j;have:=hr.1;simp only[Sim.appendTo,H];rw[pW2 ⟨by trivial,by trivial,by trivial,by omega⟩];rfl;rcases hy with rfl|rfl<;>rfl;intro z id ver off len cap hv;rcases gQ h1 with⟨id',U,g,T,j,rfl⟩|⟨j,hy⟩
 obtain⟨f,_,rfl,hl,_⟩:=uO l hg j;cases hv;omega
 grind
 have p:a.isEmpty=false:=by cases a<;>simp_all
 rcases gQ h1 with⟨id,ver,g,len,j,rfl⟩|⟨j,hy⟩
 obtain⟨f,L,rfl,hl,_,els,H,hr⟩:=uO l hg j;subst hl;have Z:=hr.1
 have J:Sim.appendTo (Sim.look s.h) lim s.n ty' g (.sl g id ver 0 rows.length none) a=some {v:=.sl g id (ver+1) 0 (rows.length+a.length) none,up:=some (id,.arr false ty' g (ver+1) (els++a))}:=by
  simp only[Sim.appendTo,H];rw[pW2 ⟨by trivial,by trivial,by trivial,by omega⟩];simp only[p,qA2,qX2];rw[pW2 (by omega),pW2 ⟨by trivial,f,by trivial⟩]
 have x:∀i,i≠id->Sim.look (upd s.h id (.arr false ty' g (ver+1) (els++a))) i=Sim.look s.h i:=fun i hi=>by
  rw[Sim.look_upd];simp[hi]
 obtain⟨F,G⟩:=Hb (id:=id) (ver:=ver+1) (e:=g) (len:=(rows++new).length) (po2:=.lz ty' g dp (rows++new)) (s':={h:=upd s.h id (.arr false ty' g (ver+1) (els++a)),n:=s.n}) l hg u
  (pQ2 _) (l.wf.upd _ _) (.upd _ _ _ _) (fun i _ hi=>x i hi) (.inr ⟨_,_,_,j⟩) ⟨f,L,rfl,rfl,hfx,els++a,by rw[Sim.look_upd];simp[H],hr.append o⟩ rfl
 refine⟨_,_,_,_,hk,q _ J ?_,F,?_,G⟩
 grind
 refine .put hd ?_ (m (fJ C k _));have:RV (mv C k (.atp id (ver+1) g (rows++new).length)) (.own k) (.sl g id (ver+1) 0 (rows++new).length none):=.own (pH C k _);rw[rJ2,hlen]at this;simpa[hlen]using this;have N:=tF l hg j;subst N
 have B:Sim.appendTo (Sim.look s.h) lim s.n ty' es' A a=some {v:=.sl es' s.n 0 0 a.length none,new:=some (.arr false ty' es' 0 a)}:=by
  rcases hy with rfl|rfl<;>simp[Sim.appendTo,p]
 have x:∀i,i<s.n->Sim.look (.ob s.n (.arr false ty' es' 0 a)::s.h) i=Sim.look s.h i:=fun i hi=>by
  rw[dT,pT2 (by omega)]
 obtain⟨F,G⟩:=Hb (id:=s.n) (ver:=0) (e:=es') (len:=([]++new).length) (po2:=.lz ty' es' dp ([]++new)) (s':={h:=.ob s.n (.arr false ty' es' 0 a)::s.h,n:=s.n+1}) l hg u
  (by show s.n<=s.n+1;omega) ⟨by simp,l.wf⟩ (.new _ _ _) (fun i hi _=>x i hi) (.inl (pQ2 _)) ⟨l.lim,by show s.n<s.n+1;omega,rfl,rfl,hfx,a,by rw[dT,pW2 rfl],by rw[List.nil_append];exact o⟩ rfl
 refine⟨_,_,_,_,hk,q _ B ?_,F,.put hd ?_ (m (fJ C k _)),G⟩
 grind
 have:RV (mv C k (.atp s.n 0 es' ([]++new).length)) (.own k) (.sl es' s.n 0 0 ([]++new).length none):=.own (pH C k _);simpa[hlen]using this;cases c
 grind
theorem aD1 (p:cG C n h lim s) {e:dY} {t:aA AV} {d ty es b:Nat} {zero:aA Value} {kill:aA Nat} {x1 x2:PV} {O X:AV} {K:dY->aQ->aB R} {r:R} (he:cV C e t) (hd:d<t.length) (h1:RV C x1 O) (h2:RV C x2 X)
  (hk:jF1 e h d ty es kill x1 x2 K=some r):
  ∃C' e' h' out,K e' h'=some r/\doOp (Sim.look s.h) lim s.n (.append ty es b zero false) [O,X]=some out/\cG C' n h' lim (out.apply s)/\cV C' e' (t.set d out.v)/\Fr C h s C' h' (out.apply s):=by
 unfold jF1 at hk;cases x1 with
 |own k=>
  simp only[eG,pM2]at hk;obtain⟨ob,hg,hk⟩:=hk;cases ob with
  |lz ty' es' dp rows=>exact Vf p he hd h1 h2 hg hk
  |lst ty' es' g rows=>
   have hz:=Ve p hk h2;clear hk;obtain⟨new,a,hk,b9,y⟩:=hz;by_cases hc:(Nat.beq es' es&&(Nat.beq ty' ty&& !(fM ty')))=true;simp only[hc,qD2,bO,pM2]at hk;simp only[pN2,bJ,pU2,qH2]at hc;obtain⟨rfl,rfl,hfx⟩:=hc;have A:zD ty'=ty':=by simp[zD,hfx]
   obtain⟨N,j,hk⟩:=hk;rw[dR]at hk;obtain⟨e2,hk,b6⟩:=iK _ _ _ hk;obtain⟨d5,hk,J⟩:=jQ _ _ _ hk;have hk:=dM _ _ _ _ _ hk;unfold appRows at j;split at j;rename_i M;obtain rfl:rows++new=N:=rX2 j
   have u:∀{C':Cx},jK k C C'->∀i w,dQ e2 i=some w->∃z,t[i]? =some z/\RV C' w z/\i≠d:=by
    intro C' o i w hw;obtain⟨v,q1,q2⟩:=b6 i w hw;obtain⟨z,p1,p2,p3⟩:=he.edel (d::kill) i v q1;exact⟨z,p1,q2 o p2,fun Y=>p3 (by simp[Y])⟩
   have G:∀out,Sim.appendTo (Sim.look s.h) lim s.n ty' es' O a=some out->(∀z id ver off len cap,out.v=.sl z id ver off len cap->len<=Sim.maxRoom)->doOp (Sim.look s.h) lim s.n (.append ty' es' b zero false) [O,X]=some out:=by
    intro out T hl;simp only[doOp,Sim.appRows,qA2,qX2,b9,T];split;rename_i hv;rw[pW2 ⟨hl _ _ _ _ _ _ hv,by rw[<-y.1];omega⟩];rfl
   have hlen:=y.1;by_cases D:a=[]
   ·
    subst D;have S:new=[]:=by simpa using hlen
    subst S;rw[sP2]at hk;obtain⟨V,W⟩:=Ni p hg J (show eM (.lst ty' es' g rows)=false from hfx);refine⟨C,_,_,{v:=O},hk,G _ ?_ ?_,V,.put hd h1 (u jK.self),W⟩;rcases gQ h1 with⟨id,ver,m,len,o,rfl⟩|⟨o,hy⟩
    obtain⟨l,rfl,hl,els,F,hr,b7,_⟩:=iB p hg o;rw[A]at F;simp only[Sim.appendTo,F];rw[pW2 ⟨by trivial,by trivial,by trivial,by omega⟩];rfl;rcases hy with rfl|rfl<;>rfl;intro z id ver off len cap hv;rcases gQ h1 with⟨id',d3,m,d2,o,rfl⟩|⟨o,hy⟩
    obtain⟨l,rfl,hl,_⟩:=iB p hg o;cases hv;omega
    grind
   have x:a.isEmpty=false:=by cases a<;>simp_all
   rcases gQ h1 with⟨id,ver,m,len,o,rfl⟩|⟨o,hy⟩
   obtain⟨l,rfl,hl,els,F,hr,b7,b0⟩:=iB p hg o;rw[A]at F;subst hl;have b5:=(p.hr.lt (by rw[hg];simp) o).2
   have fin:∀(f:Nat) (c:aA (aA AV)) (out:Out),out={v:=.sl m id f 0 (rows.length+a.length) none,up:=some (id,.arr false ty' m f c)}->
     Sim.appendTo (Sim.look s.h) lim s.n ty' m (.sl m id ver 0 rows.length none) a=some out->
     RR (rows++new) (c.take (rows++new).length)->(rows++new).length<=c.length->(g=false->c.length=(rows++new).length)->
     ∃C' e' h' out,K e' h'=some r/\doOp (Sim.look s.h) lim s.n (.append ty' m b zero false) [.sl m id ver 0 rows.length none,X]=some out/\cG C' n h' lim (out.apply s)/\cV C' e' (t.set d out.v)/\Fr C h s C' h' (out.apply s):=by
    intro f c out T Z U P a0;have B:(out.apply s).h=upd s.h id (.arr false ty' m f c)/\(out.apply s).n=s.n:=by subst T;exact⟨rfl,rfl⟩
    have L:∀i,i≠id->Sim.look (upd s.h id (.arr false ty' m f c)) i=Sim.look s.h i:=fun i hi=>by
     rw[Sim.look_upd];simp[hi]
    have q:out.apply s={h:=upd s.h id (.arr false ty' m f c),n:=s.n}:=by subst T;rfl
    obtain⟨V,W⟩:=Hb (id:=id) (ver:=f) (e:=m) (len:=(rows++new).length) (po2:=.lst ty' m g (rows++new)) (s':={h:=upd s.h id (.arr false ty' m f c),n:=s.n}) p hg J
     (pQ2 _) (p.wf.upd _ _) (.upd _ _ _ _) (fun i _ hi=>L i hi) (.inr ⟨_,_,_,o⟩) ⟨l,b5,rfl,rfl,c,by rw[Sim.look_upd];simp[F,A],U,P,a0⟩ hfx
    refine⟨_,_,_,out,hk,G out Z ?_,by rw[q];exact V,?_,by rw[q];exact W⟩
    grind
    subst T;refine .put hd ?_ (u (fJ C k _));have:RV (mv C k (.atp id f m (rows++new).length)) (.own k) (.sl m id f 0 (rows++new).length none):=.own (pH C k _);rw[rJ2,hlen]at this;simpa[hlen]using this
   by_cases H:rows.length=els.length;refine fin (ver+1) (els++a) _ rfl ?_ ?_ ?_ ?_;simp only[Sim.appendTo,F];rw[pW2 ⟨by trivial,by trivial,by trivial,by omega⟩];simp only[x,qA2,qX2];rw[pW2 (by omega),pW2 ⟨by trivial,l,by trivial⟩];rw[qV2 (by simp;omega)];refine RR.append ?_ y;rw[qV2 (by omega)]at hr;exact hr;simp;omega;intro _;simp;omega
   have b4:g=true:=by
    cases g with
    |true=>rfl
    |false=>exact absurd (b0 rfl).symm H
   have d4:=M.2 b4
   have d1:a.length=1:=by
    have:a.length≠0:=by simpa using D
    omega
   have E:rows.length+a.length<=els.length:=by omega
   refine fin ver (Sim.setL els rows.length a) _ rfl ?_ ?_ ?_ ?_;simp only[Sim.appendTo,F];rw[pW2 ⟨by trivial,by trivial,by trivial,by omega⟩];simp only[x,qA2,qX2];rw[pT2 (by omega),pW2 ⟨by omega,l⟩];rw[rP2];rw[rP els rows.length a E];have Y:(els.take rows.length++a++els.drop (rows.length+a.length)).take (rows++new).length=els.take rows.length++a:=by grind
   rw[Y];exact hr.append y;rw[rP els rows.length a E];simp[hlen];omega
   grind
   ·
    have b8:=jI p hg o;subst b8
    have B:Sim.appendTo (Sim.look s.h) lim s.n ty' es' O a=some {v:=.sl es' s.n 0 0 a.length none,new:=some (.arr false ty' es' 0 a)}:=by
     rcases hy with rfl|rfl<;>simp[Sim.appendTo,x]
    have L:∀i,i<s.n->Sim.look (.ob s.n (.arr false ty' es' 0 a)::s.h) i=Sim.look s.h i:=fun i hi=>by
     rw[dT,pT2 (by omega)]
    obtain⟨V,W⟩:=Hb (id:=s.n) (ver:=0) (e:=es') (len:=([]++new).length) (po2:=.lst ty' es' g ([]++new)) (s':={h:=.ob s.n (.arr false ty' es' 0 a)::s.h,n:=s.n+1}) p hg J
     (by show s.n<=s.n+1;omega) ⟨by simp,p.wf⟩ (.new _ _ _) (fun i hi _=>L i hi) (.inl (pQ2 _)) ⟨p.lim,by show s.n<s.n+1;omega,rfl,rfl,a,by rw[dT,pW2 rfl,A],by rw[qV2 (by simp;omega)];exact y,by simp;omega,fun _=>by simp;omega⟩ hfx
    refine⟨_,_,_,_,hk,G _ B ?_,V,.put hd ?_ (u (fJ C k _)),W⟩
    grind
    have:RV (mv C k (.atp s.n 0 es' ([]++new).length)) (.own k) (.sl es' s.n 0 0 ([]++new).length none):=.own (pH C k _);simpa[hlen]using this
   cases j
   grind
  |_=>exact aD hk
 |_=>exact aD hk
theorem Vg (d:cG C n h lim s) {k ty2 e2:Nat} {g2:Bool} {po:fP} {h1:aQ} (hg:aL h k=some po) (u:C k=some .nil) (hkl:yA k h h1) (g:fM ty2=false):
  cG C n (eF h1 k (.lst ty2 e2 g2 [])) lim s/\Fr C h s C (eF h1 k (.lst ty2 e2 g2 [])) s:=by
 have m:(aL h1 k).isSome=true:=by
  cases hc:aL h1 k with
  |none=>rw[(hkl.1 k).1 hc]at hg;cases hg
  |some o=>rfl
 have a:∀j,aL (eF h1 k (.lst ty2 e2 g2 [])) j=if j=k then some (.lst ty2 e2 g2 [])else aL h1 j:=fun j=>by
  rw[fC];simp[m]
 have b:∀j,aL (eF h1 k (.lst ty2 e2 g2 [])) j≠none->aL h j≠none:=fun j c=>by
  rw[a]at c;split at c
  grind
  exact fun hc=>c ((hkl.1 j).2 hc)
 refine⟨⟨⟨fun j o c=>?_,fun j t i v1 f r v2 e2 y a1 a2 a3 a4=>d.hr.inj j t i v1 f r v2 e2 y (b j a1) (b t a2) a3 a4,fun i o x=>?_⟩,d.dom,d.wf,d.lim⟩,⟨.refl _ _,pQ2 _,fun _ _ _=>rfl,fun i hi w=>?_,Da hg hkl g jK.self,fun _ _ h=>h,fun _ _ h=>.inl h⟩⟩;rw[a]at c;split at c;rename_i f;subst f;cases c;exact⟨.nil,u,rfl⟩;obtain⟨z,q1,A,q2⟩:=hkl.2 j o c;obtain⟨pl,p,q⟩:=d.hr.ob j z q1;exact⟨pl,p,q2 jK.self q⟩;obtain⟨z1,z2,z3,z4⟩:=d.hr.zr i o x;exact⟨z1,z2,fun j v e l h1 h2=>z3 j v e l (b j h1) h2,z4⟩;obtain⟨j,v1,f,r,p,q⟩:=w;exact⟨j,v1,f,r,b j p,q⟩
theorem Qg (f:cG C n h lim s) {e:dY} {t:aA AV} {d es k:Nat} {hi:Int} {kd:IntKind} {kill:aA Nat} {D F:AV} {K:dY->aQ->aB R} {r:R} (he:cV C e t) (hd:d<t.length) (h1:RV C (.own k) D) (h2:RV C (.v (.int kd hi)) F)
  (hk:Kc e h d es kill k hi K=some r):
  ∃C' e' h' out,K e' h'=some r/\doOp (Sim.look s.h) lim s.n (.slc es false true false) [D,F]=some out/\cG C' n h' lim (out.apply s)/\cV C' e' (t.set d out.v)/\Fr C h s C' h' (out.apply s):=by
 unfold Kc at hk;simp only[eG,pM2]at hk;obtain⟨ob,hg,hk⟩:=hk;cases ob with
 |lst ty es' g rows=>
  by_cases hc:es'=es
  .subst hc
   cases hfx:fM ty with
   |true=>simp only[hfx,sW2,Bool.and_false,qS2]at hk;exact aD hk
   |false=>
   simp only[bJ,rG2,hfx,Bool.not_false,Bool.and_true,qD2,bO,pM2,oJ]at hk;obtain⟨B,c,hk⟩:=hk;rw[dR]at hk;obtain⟨e2,hk,j⟩:=iK _ _ _ hk;obtain⟨u,hk,l⟩:=jQ _ _ _ hk;have hk:=dM _ _ _ _ _ hk;split at c
   .rename_i hb
    obtain⟨b2,b3⟩:=hb;obtain rfl:=rX2 c;rw[eQ h2];rcases gQ h1 with⟨id,ver,o,len,b,rfl⟩|⟨b,hy⟩
    .obtain ⟨m,rfl,hl,els,E,hr,H,G⟩:=iB f hg b
     subst hl;have x:=(f.hr.lt (by rw[hg];simp) b).2;have a:(rows.take hi.toNat).length=hi.toNat:=by simp;omega
     obtain⟨y,A⟩:=Hb (id:=id) (ver:=ver) (e:=o) (len:=(rows.take hi.toNat).length) (po2:=.lst ty o true (rows.take hi.toNat)) (s':=s) (h1:=u) (hg:=hg) (hkl:=l) f
      (pQ2 _) f.wf (.refl _ _) (fun i _ _=>rfl) (.inr ⟨_,_,_,b⟩) ⟨m,x,rfl,rfl,els,E,by
       have:=hr.take hi.toNat
       rw[List.take_take,Nat.min_eq_left (by omega)]at this;rw[a];exact this,by rw[a];omega,fun h=>by cases h⟩ hfx
     refine⟨_,_,_,{v:=.sl o id ver 0 hi.toNat none},hk,?_,y,.put hd ?_ (fun i w hw=>?_),A⟩
     .simp only[doOp,Sim.sliceOp,qA2,qX2,Sim.bounds,Sim.intOf,qR2,E,Sim.roomOf]
      rw[pW2 ⟨by trivial,by trivial,by omega,b2,by omega,by omega⟩];simp
     .have:=RV.own (C:=mv C k (.atp id ver o (rows.take hi.toNat).length)) (pH C k _)
      rw[a]at this ⊢;exact this
     .obtain ⟨v,q1,q2⟩:=j i w hw
      obtain⟨z,p1,p2,p3⟩:=he.edel (d::kill) i v q1;exact⟨z,p1,q2 (fJ C k _) p2,fun p=>p3 (by simp[p])⟩
    .have:=jI f hg b
     subst this;simp only[qB2,Int.natCast_zero]at b3;obtain rfl:hi=0:=by omega
     obtain⟨y,A⟩:=Vg (ty2:=ty) (e2:=es') (g2:=true) f hg b l hfx
     obtain rfl:D=.v (.slice none 0 0):=by
      rcases kS h1 with⟨_,_,_,_,q,_⟩|⟨_,q⟩
      .rw [b]at q;cases q
      .exact q
     refine⟨_,_,_,{v:=.v (.slice none 0 0)},hk,rfl,y,.put hd (.ownn b rfl) (fun i w hw=>?_),A⟩;obtain⟨v,q1,q2⟩:=j i w hw;obtain⟨z,p1,p2,p3⟩:=he.edel (d::kill) i v q1;exact⟨z,p1,q2 jK.self p2,fun p=>p3 (by simp[p])⟩
   .cases c
  .simp only[bJ,qW2 hc,Bool.false_and,qS2]at hk;exact aD hk
 |_=>exact aD hk
end
end Go.P
namespace Go.P
open Go.Sim (AV AO Hp eY upd St IC IX Ex dW CK Wf Out doOp gH exec)
section
variable {R:Type} {C:Cx} {n:Nat} {h:aQ} {lim:Nat} {s:Hp}
theorem Vh (l:cG C n h lim s) {m:Bool} {k:Nat} {v:PV} {ob:fP} {x:PV} (hv:xN v=some (m,k)) (hg:aL h k=some ob) (hf:Mr m ob=some x) {y:AV} (hy:RV C v y):
  (∃id ver e len o,C k=some (.atp id ver e len)/\Sim.look s.h id=some o/\nbO o=true/\∀(z:Nat->aB AO) (f:Nat->aB Pl),(∀i o,C.z i=some o->z i=some o)->z id=some o->RV ⟨f,z⟩ x y)\/(C k=some .nil/\∀C':Cx,RV C' x y):=by
 cases v with
 |own k'=>
  cases hv;cases ob with
  |lst ty e g rows=>
   unfold Mr at hf;cases hfx:fM ty with
   |true=>simp only[hfx,qD2]at hf;cases hf
   |false=>
   simp only[hfx,qS2]at hf;cases hf;have q:zD ty=ty:=by simp[zD,hfx]
   rcases kS hy with⟨id,ver,d,len,c,rfl⟩|⟨c,rfl⟩
   obtain⟨_,rfl,hlen,els,j,hr,p,_⟩:=iB l hg c;subst hlen;rw[q]at j;refine .inl ⟨id,ver,d,_,_,c,j,rfl,fun z f t hi=>.zs (.inr ⟨d,rows,id,ver,ty,els,rfl,rfl,hi,p,fun i r r' a b=>?_⟩)⟩;refine hr.2 i r r' a ?_;have:i<rows.length:=(pO2.1 a).1;rw[rA2,pW2 this];exact b;have:=jI l hg c;subst this;exact .inr ⟨c,fun C'=>.zs (RZ.of .isn)⟩
  |lz ty e dp rows=>
   cases hf;rcases kS hy with⟨id,ver,d,len,c,rfl⟩|⟨c,rfl⟩
   obtain⟨_,_,rfl,hlen,_,els,j,hr⟩:=uO l hg c;subst hlen;have hl:=hr.1;exact .inl ⟨id,ver,d,_,_,c,j,rfl,fun z f t hi=>.zs (.inr ⟨d,rows,id,ver,ty,els,rfl,rfl,hi,by omega,fun i r r' a b=>(hr.2 i r r' a b).mono fun _ _ h=>RZ.mono t h⟩)⟩;have:=tF l hg c;subst this;exact .inr ⟨c,fun C'=>.zs (RZ.of .isn)⟩
  |_=>cases hf
 |map k'=>
  cases hv;cases ob with
  |mp es=>
   cases hf;obtain⟨id,ver,d,len,c,rfl⟩:=tD hy;obtain⟨_,es',j,he⟩:=Gt l hg c;exact .inl ⟨id,ver,d,_,_,c,j,rfl,fun z f t hi=>.zm hi he⟩
  |_=>cases hf
 |_=>cases hv
def Sj (C:Cx) (k id:Nat) (o:AO):Cx:=⟨fun j=>if j=k then some .nil else C j,fun i=>if i=id then some o else C.z i⟩
theorem zH1 (q:cG C n h lim s) {k id ver e len:Nat} {po:fP} {h1:aQ} {o:AO} (hg:aL h k=some po) (u:C k=some (.atp id ver e len)) (L:Sim.look s.h id=some o) (E:nbO o=true) (hkl:yA k h h1):
  cG (Sj C k id o) n (eF h1 k (.lst 0 0 true [])) lim s/\Fr C h s (Sj C k id o) (eF h1 k (.lst 0 0 true [])) s/\jK k C (Sj C k id o):=by
 have B:=(q.hr.lt (by rw[hg];simp) u).2
 have F:C.z id=none:=by
  cases f:C.z id with
  |none=>rfl
  |some o'=>exact absurd u ((q.hr.zr id o' f).2.2.1 k ver e len (by rw[hg];simp))
 have x:∀i o',C.z i=some o'->(Sj C k id o).z i=some o':=fun i o' f=>by
  have:i≠id:=fun r=>by rw[r,F]at f;cases f
  simp only[Sj,pT2 this];exact f
 have c:jK k C (Sj C k id o):=⟨fun j d=>pT2 d,x⟩
 have y:(Sj C k id o) k=some .nil:=pW2 rfl
 have A:(aL h1 k).isSome=true:=by
  cases hc:aL h1 k with
  |none=>rw[(hkl.1 k).1 hc]at hg;cases hg
  |some o=>rfl
 have m:∀j,aL (eF h1 k (.lst 0 0 true [])) j=if j=k then some (.lst 0 0 true [])else aL h1 j:=fun j=>by
  rw[fC];simp[A]
 have p:∀j,aL (eF h1 k (.lst 0 0 true [])) j≠none->aL h j≠none:=fun j d=>by
  rw[m]at d;split at d
  grind
  exact fun hc=>d ((hkl.1 j).2 hc)
 have g:∀{j t v e l},(Sj C k id o) j=some (.atp t v e l)->j≠k/\C j=some (.atp t v e l):=fun{j t v e l} d=>by
  by_cases b:j=k
  grind
  exact⟨b,(c.1 j b).symm.trans d⟩
 refine⟨⟨⟨fun j ob d=>?_,fun j K i v1 r J v2 e2 N a1 a2 a3 a4=>q.hr.inj j K i v1 r J v2 e2 N (p j a1) (p K a2) (g a3).2 (g a4).2,fun i o' f=>?_⟩,fun j pl d=>?_,q.wf,q.lim⟩,⟨.refl _ _,pQ2 _,fun _ _ _=>rfl,fun i hi M=>?_,Da hg hkl rfl c,x,fun i hi f=>?_⟩,c⟩;rw[m]at d;split at d;rename_i r;subst r;cases d;exact⟨.nil,y,rfl⟩;rename_i D;obtain⟨O,q1,P,q2⟩:=hkl.2 j ob d;obtain⟨pl,G,H⟩:=q.hr.ob j O q1;exact⟨pl,(c.1 j D).trans G,q2 c H⟩;by_cases hi:i=id;subst hi;simp only[Sj,qQ2]at f;cases f;refine⟨L,B,fun j v e' l a b=>?_,E⟩;obtain⟨b1,b2⟩:=g b;exact b1 (q.hr.inj j k i _ _ _ _ _ _ (p j a) (by rw[hg];simp) b2 u);simp only[Sj,pT2 hi]at f;obtain⟨z1,z2,z3,z4⟩:=q.hr.zr i o' f;exact⟨z1,z2,fun j v e' l a b=>z3 j v e' l (p j a) (g b).2,z4⟩;by_cases b:j=k;subst b;exact q.dom j _ u;exact q.dom j pl ((c.1 j b).symm.trans d);obtain⟨j,v1,r,J,G,H⟩:=M;exact⟨j,v1,r,J,p j G,(g H).2⟩;by_cases w:i=id;subst w;exact .inr ⟨k,ver,e,len,by rw[hg];simp,u⟩;simp only[Sj,pT2 w]at f;exact .inl f
theorem aE1 (A:cG C n h lim s) {e:dY} {t:aA AV} (he:cV C e t) {d k:Nat} {m:Bool} {H J:PV} {q yd:AV} {j:aB Nat} {K:dY->aQ->aB R} {r:R} (N:dQ e d=some J) (hd:t[d]? =some yd) (P:RV C J yd)
  (hv:xN H=some (m,k)) (hy:RV C H q) (O:(j=none/\yd=q)\/∃i cs',j=some i/\yd=.agg cs'/\cs'[i]? =some q) (hk:fzK e h d m k j K=some r):
  ∃C' e' h',K e' h'=some r/\cG C' n h' lim s/\cV C' e' t/\Fr C h s C' h' s:=by
 unfold fzK at hk;rw[eG,pM2]at hk;obtain⟨ob,hg,hk⟩:=hk;cases hf:Mr m ob with
 |none=>rw[hf]at hk;cases hk
 |some x=>
 rw[hf]at hk;simp only at hk;obtain⟨e2,hk,D⟩:=iK _ _ _ hk;obtain⟨h2,hk,p⟩:=jQ _ _ _ hk;have hk:=dM _ _ _ _ _ hk
 have g:∃C',cG C' n (eF h2 k (.lst 0 0 true [])) lim s/\Fr C h s C' (eF h2 k (.lst 0 0 true [])) s/\jK k C C'/\RV C' x q:=by
  rcases Vh A hv hg hf hy with⟨id,ver,S,len,o,y,M,E,F⟩|⟨y,F⟩
  obtain⟨c,f,u⟩:=zH1 A hg y M E p;exact⟨_,c,f,u,F _ _ u.2 (by simp[Sj])⟩;obtain⟨c,f⟩:=Vg (ty2:=0) (e2:=0) (g2:=true) A hg y p rfl;exact⟨C,c,f,jK.self,F C⟩
 obtain⟨C',c,f,u,G⟩:=g
 have l:cV C' e2 t:=fun i w hw=>by
  obtain⟨v,q1,q2⟩:=D i w hw;obtain⟨z,p1,p2⟩:=he i v q1;exact⟨z,p1,q2 u p2⟩
 have zN:∀{v:PV},RV C' v yd->cV C' ((d,v)::edel e2 [d]) t:=fun{v} hv i w hw=>by
  simp only[dQ]at hw;split at hw
  grind
  obtain⟨z,p1,p2,_⟩:=l.edel [d] i w hw;exact⟨z,p1,p2⟩
 rcases O with⟨rfl,rfl⟩|⟨i,cs',rfl,rfl,hi⟩
 simp only[dR]at hk;exact⟨C',_,_,hk,c,zN G,f⟩;simp only[eZ,pM2]at hk;obtain⟨v2,hv2,hk⟩:=hk;cases v2 with
 |agg cs=>
  obtain⟨q1,q2⟩:=gY _ _ _ _ _ hk;simp only[dR]at q2;obtain⟨z,p1,p2⟩:=l d _ hv2;rw[hd]at p1;cases p1;obtain⟨cs2,B,hl⟩:=lF p2;cases B;refine⟨C',_,_,q2,c,zN ?_,f⟩;have b:=hl.set G i
  have L:cs'.set i q=cs':=by
   apply tG2;intro a;rw[qK2];split
   grind
   rfl
  rw[L]at b;exact .agg b.1 b.2
 |_=>exact aD hk
end
end Go.P
namespace Go.P
open Go.Sim (AV AO Hp eY upd St IC IX Ex dW CK Wf Out doOp gH exec Foot wanted put)
theorem Vi {x:PV} (h:okC x=true):RC false x (eV x):=by
 unfold okC at h;split at h;exact .v _;exact .isn;exact .fn rfl rfl (fun j x y h=>by simp at h) (fun j x y h=>by simp at h);rename_i cs;refine .agg (by simp) (fun j x y a hy=>?_);simp only[qU2,pP2]at hy;obtain⟨b,h1,rfl⟩:=hy;rw[a]at h1;cases h1;have:=pX2.1 h x (pZ2 a);cases x<;>simp[isV]at this;exact .v _;cases h
def Km (N:Nat):PX->Bool
 |.t i=>Nat.blt i N
 |.c x=>okC x
def iJ (N:Nat) (e:aA Nat) (a:Bool):aA Nat->gC->Bool
 |_,.nil=>true
 |ds,.op d _ xs _ r=>Nat.blt d N&& !zL d e&&xs.all (Km N)&&iJ N e a (d::ds) r
 |ds,.sto _ xs _ r=>xs.all (Km N)&&iJ N e a ds r
 |ds,.ifx d c _ b x _ r=>Nat.blt d N&& !zL d e&&Km N x&&(!a||zL c ds)&&iJ N (c::e) true [] b&&iJ N e a (d::ds) r
 |ds,.ifn d c _ b x _ r=>Nat.blt d N&& !zL d e&&Km N x&&(!a||zL c ds)&&iJ N (c::e) true [] b&&iJ N e a (d::ds) r
 |ds,.mkfl d _ _ xs _ r=>Nat.blt d N&& !zL d e&&xs.all (Km N)&&iJ N e a (d::ds) r
 |ds,.lax _ _ r=>iJ N e a ds r
 |ds,.own _ _ _ _ r=>iJ N e a ds r
 |ds,.ownc _ _ _ _ _ r=>iJ N e a ds r
 |ds,.laxc _ _ _ r=>iJ N e a ds r
 |ds,.fz _ _ r=>iJ N e a ds r
 |ds,.laxm _ _ r=>iJ N e a ds r
section
variable {R:Type} {C:Cx} {n N:Nat} {h:aQ} {lim:Nat} {s:Hp} {T:gH} {O:rL} {NF:FuncId->Bool} {dr:Nat} {e:dY} {t:List AV}
theorem iN (he:cV C e t):∀{xs:aA PX} {vs:aA PV},xs.all (Km N)=true->evs e xs=some vs->∃ys,Sim.evs t (xs.map eX)=some ys/\LR (RV C) vs ys
 |[],vs,_,h=>by
  simp only[evs,pV2]at h
  subst h
  exact⟨[],rfl,.nil⟩
 |.t i::xs,vs,ho,h=>by
  simp only[evs,pM2,pV2]at h
  obtain⟨v,hv,f,a,rfl⟩:=h
  obtain⟨y,h1,h2⟩:=he i v hv
  obtain⟨ys,b,d⟩:=iN he (xs:=xs) (by simp only[rR2,pN2]at ho;exact ho.2) a
  exact⟨y::ys,by simp[Sim.evs,eX,IX.ev,h1,b],.cons h2 d⟩
 |.c x::xs,vs,ho,h=>by
  simp only[evs,pM2,pV2]at h
  obtain⟨f,a,rfl⟩:=h
  simp only[rR2,pN2]at ho
  obtain⟨ys,b,d⟩:=iN he (xs:=xs) ho.2 a
  exact⟨eV x::ys,by simp[Sim.evs,eX,IX.ev,b],.cons (.cl (Vi ho.1)) d⟩
def It (g:aB (Nat×Bool)) (t:aA AV):Prop:=match g with
 |none=>True
 |some (c,w)=>t[c]? =some (.v (.bool w))
theorem It.wanted {g:aB (Nat×Bool)} {t:aA AV} (h:It g t):wanted t g=true:=by
 cases g with
 |none=>rfl
 |some p=>obtain⟨c,w⟩:=p;simp only[It]at h;simp[Sim.wanted,h]
def GIn (g:aB (Nat×Bool)) (a:aA Nat):Prop:=∀c w,g=some (c,w)->c∈a
theorem It.set {g:aB (Nat×Bool)} {t:aA AV} {a:aA Nat} {d:Nat} {y:AV} (h:It g t) (hg:GIn g a) (hd:d∉a):It g (t.set d y):=by
 cases g with
 |none=>trivial
 |some p=>
  obtain⟨c,w⟩:=p;simp only[It]at h ⊢;rw[qM2 (fun e=>hd (by rw[e];exact hg c w rfl))];exact h
structure Mx (s s':Hp):Prop where
 sk:Sk s.h s'.h s.n
 n:s.n<=s'.n
 wf:Wf s'.h s'.n
 look:∀id,id<s.n->Sim.look s'.h id=Sim.look s.h id
theorem Mx.refl (hw:Wf s.h s.n):Mx s s:=⟨.refl _ _,pQ2 _,hw,fun _ _=>rfl⟩
theorem Mx.trans {s' d:Hp} (a:Mx s s') (b:Mx s' d):Mx s d:=⟨a.sk.trans b.sk a.n,qT2 a.n b.n,b.wf,fun id c=>(b.look id (rT2 c a.n)).trans (a.look id c)⟩
theorem cG.grow {s':Hp} (b:cG C n h lim s) (a:Mx s s'):cG C n h lim s':=by
 refine⟨⟨fun k po hk=>?_,b.hr.inj,fun id o c=>?_⟩,b.dom,a.wf,qT2 b.lim a.n⟩;obtain⟨pl,h1,h2⟩:=b.hr.ob k po hk;refine⟨pl,h1,h2.mono a.n (.refl C) (fun id v e l hp=>?_)⟩;subst hp;exact a.look id h2.lt.2;obtain⟨z1,z2,z3,z4⟩:=b.hr.zr id o c;exact⟨(a.look id z2).trans z1,rT2 z2 a.n,z3,z4⟩
theorem Mx.fr {s':Hp} (b:Mx s s'):Fr C h s C h s':=⟨b.sk,b.n,fun id a _=>b.look id a,fun _ _ h=>h,fun k o h=>⟨o,h,fun hb=>⟨hb,rfl⟩⟩,fun _ _ h=>h,fun _ _ h=>.inl h⟩
theorem cJ:∀(ops:gC) (a:aA Nat) (i:Nat),i∈bV ops a↔i∈bV ops []\/i∈a
 |.nil,a,i=>by simp[bV]
 |.op d k xs kl r,a,i=>by
  simp only[bV,qI2,cJ r a i,or_assoc]
 |.sto k xs kl r,a,i=>by simp only[bV,cJ r a i]
 |.ifx d c w b x kl r,a,i=>by
  simp only[bV,qI2,cJ b (bV r a) i,cJ b (bV r []) i,cJ r a i]
  constructor
  rintro(h|h|h|h)<;>simp[h]
  rintro((h|h|h)|h)<;>simp[h]
 |.ifn d c w b x kl r,a,i=>by
  simp only[bV,qI2,cJ b (bV r a) i,cJ b (bV r []) i,cJ r a i]
  constructor
  rintro(h|h|h|h)<;>simp[h]
  rintro((h|h|h)|h)<;>simp[h]
 |.mkfl d ty zero xs kl r,a,i=>by
  simp only[bV,qI2,cJ r a i,or_assoc]
 |.lax d es r,a,i=>by simp only[bV,cJ r a i]
 |.own d ty e g r,a,i=>by simp only[bV,cJ r a i]
 |.ownc d j ty e g r,a,i=>by simp only[bV,cJ r a i]
 |.laxc d j e r,a,i=>by simp only[bV,cJ r a i]
 |.fz d j r,a,i=>by simp only[bV,cJ r a i]
 |.laxm d j r,a,i=>by simp only[bV,cJ r a i]
theorem dX:∀(ops:gC) {f h:aA Nat} {a:Bool},iJ N f a h ops=true->∀i∈bV ops [],i∉f
 |.nil,f,h,a,_,i,hi=>by simp[bV]at hi
 |.op d k xs kl r,f,h,a,ho,i,hi=>by
  simp only[iJ,pN2,qH2,fZ]at ho
  obtain⟨⟨⟨h1,h2⟩,m⟩,l⟩:=ho
  simp only[bV,qI2]at hi
  rcases hi with rfl|hi
  simpa using h2
  exact dX r l i hi
 |.sto k xs kl r,f,h,a,ho,i,hi=>by
  simp only[iJ,pN2]at ho
  exact dX r ho.2 i hi
 |.ifx d c w b x kl r,f,h,a,ho,i,hi=>by
  simp only[iJ,pN2,qH2,fZ]at ho
  obtain⟨⟨⟨⟨⟨h1,h2⟩,m⟩,l⟩,n⟩,o⟩:=ho
  simp only[bV,qI2,cJ b (bV r []) i]at hi
  rcases hi with rfl|hi|hi
  simpa using h2
  exact fun hg=>dX b n i hi (by simp[hg])
  exact dX r o i hi
 |.ifn d c w b x kl r,f,h,a,ho,i,hi=>by
  simp only[iJ,pN2,qH2,fZ]at ho
  obtain⟨⟨⟨⟨⟨h1,h2⟩,m⟩,l⟩,n⟩,o⟩:=ho
  simp only[bV,qI2,cJ b (bV r []) i]at hi
  rcases hi with rfl|hi|hi
  simpa using h2
  exact fun hg=>dX b n i hi (by simp[hg])
  exact dX r o i hi
 |.mkfl d ty zero xs kl r,f,h,a,ho,i,hi=>by
  simp only[iJ,pN2,qH2,fZ]at ho
  obtain⟨⟨⟨h1,h2⟩,m⟩,l⟩:=ho
  simp only[bV,qI2]at hi
  rcases hi with rfl|hi
  simpa using h2
  exact dX r l i hi
 |.lax d es r,f,h,a,ho,i,hi=>dX r (by simpa only[iJ]using ho) i hi
 |.own d ty e g r,f,h,a,ho,i,hi=>dX r (by simpa only[iJ]using ho) i hi
 |.ownc d j ty e g r,f,h,a,ho,i,hi=>dX r (by simpa only[iJ]using ho) i hi
 |.laxc d j e r,f,h,a,ho,i,hi=>dX r (by simpa only[iJ]using ho) i hi
 |.fz d j r,f,h,a,ho,i,hi=>dX r (by simpa only[iJ]using ho) i hi
 |.laxm d j r,f,h,a,ho,i,hi=>dX r (by simpa only[iJ]using ho) i hi
theorem mP {g:aB (Nat×Bool)} {a:aA Nat} {d:Nat} {y:AV} (hg:GIn g a) (hd:d∉a):wanted (t.set d y) g=wanted t g:=by
 cases g with
 |none=>rfl
 |some p=>
  obtain⟨c,w⟩:=p;simp only[Sim.wanted];rw[qM2 (fun e=>hd (by rw[e];exact hg c w rfl))]
theorem uR {g:aB (Nat×Bool)} {t a:aA AV} (h:∀c w,g=some (c,w)->a[c]? =t[c]?):wanted a g=wanted t g:=by
 cases g with
 |none=>rfl
 |some p=>
  obtain⟨c,w⟩:=p;simp only[Sim.wanted];rw[h c w rfl]
theorem eH (g:aB (Nat×Bool)):∀(ops:gC) (a h:aA Nat) (t:aA AV),iJ N a true h ops=true->GIn g a->wanted t g=false->
  (∀c∈h,∀b,t[c]? ≠some (.v (.bool b)))->
  ∃fs n,Tr T NF dr lim (oL g ops) {t:=t,s:=s} fs {t:=n,s:=s}/\n.length=t.length/\(∀(i:Nat),i∉bV ops []->n[i]? =t[i]?)/\∀(i:Nat),n[i]? =t[i]? \/n[i]? =some AV.undef
 |.nil,a,h,t,_,_,_,_=>⟨[],t,.nil,rfl,fun _ _=>rfl,fun _=>.inl rfl⟩
 |.op d k xs kl r,a,h,t,ho,hg,hw,hd=>by
  simp only[iJ,pN2,qH2,fZ]at ho
  obtain⟨⟨⟨h1,h2⟩,K⟩,C⟩:=ho
  have m:d∉a:=by simpa using h2
  have eF:∀i,(t.set d AV.undef)[i]? =t[i]? \/(t.set d AV.undef)[i]? =some AV.undef:=fun i=>by
   by_cases e:d=i
   subst e
   by_cases hl:d<t.length
   exact .inr (by rw[qK2];simp[hl])
   exact .inl (by rw[sR2 (Nat.le_of_not_lt hl)])
   exact .inl (qM2 e)
  obtain⟨fs,n,A,B,y,l⟩:=eH g r a (d::h) (t.set d AV.undef) C hg (by rw[mP hg m];exact hw) (fun c hc b=>by
   by_cases f:d=c
   subst f
   rw[qK2]
   simp only[qQ2]
   split
   intro e;cases e
   intro e;cases e
   rw[qM2 f]
   rcases qI2.1 hc with rfl|hc
   exact absurd rfl f
   exact hd c hc b)
  refine⟨_,n,.skip (o:=⟨some d,k,xs.map eX,g⟩) hw A,by simpa using B,fun i hi=>?_,fun i=>?_⟩
  simp only[bV,qI2,sI2]at hi
  rw[y i hi.2,qM2 (Ne.symm hi.1)]
  rcases l i with l|l
  rw[l];exact eF i
  exact .inr l
 |.ifx d c w b x kl r,a,h,t,ho,hg,hw,hd=>by
  simp only[iJ,pN2,qH2,fZ,sW2,Bool.false_or]at ho
  obtain⟨⟨⟨⟨⟨h1,h2⟩,K⟩,C⟩,H⟩,L⟩:=ho
  have m:d∉a:=by simpa using h2
  have E:c∈h:=by simpa using C
  have G:wanted t (some (c,w))=false:=by
   simp only[Sim.wanted];split;rename_i q M;exact absurd M (hd c E q);rfl
  obtain⟨fs,p,A,B,y,l⟩:=eH (some (c,w)) b (c::a) [] t H (fun z w' e=>by cases e;simp) G (fun c hc=>by simp at hc)
  have u:wanted p g=false:=by
   rw[uR (t:=t) (fun z w' e=>y z (fun hi=>dX b H z hi (by simp[hg z w' e])))];exact hw
  have F:∀c∈h,∀b,p[c]? ≠some (.v (.bool b)):=fun c hc b=>by
   rcases l c with l|l;rw[l];exact hd c hc b;rw[l];intro e;cases e
  have eF:∀i,(p.set d AV.undef)[i]? =p[i]? \/(p.set d AV.undef)[i]? =some AV.undef:=fun i=>by
   by_cases e:d=i;subst e;by_cases hl:d<p.length;exact .inr (by rw[qK2];simp[hl]);exact .inl (by rw[sR2 (Nat.le_of_not_lt hl)]);exact .inl (qM2 e)
  obtain⟨J,n,q1,q2,q3,q4⟩:=eH g r a (d::h) (p.set d AV.undef) L hg (by rw[mP hg m];exact u) (fun c hc b=>by
   by_cases f:d=c;subst f;rw[qK2];simp only[qQ2];split;intro e;cases e;intro e;cases e;rw[qM2 f];rcases qI2.1 hc with rfl|hc;exact absurd rfl f;exact F c hc b)
  refine⟨_,n,A.append (.skip u q1),by simp[q2,B],fun i hi=>?_,fun i=>?_⟩;simp only[bV,qI2,cJ b (bV r []) i,sI2]at hi;rw[q3 i hi.2.2,qM2 (Ne.symm hi.1),y i hi.2.1];rcases q4 i with q4|q4;rw[q4];rcases eF i with D|D;rw[D];exact l i;exact .inr D;exact .inr q4
 |.ifn d c w b x kl r,a,h,t,ho,hg,hw,hd=>by
  simp only[iJ,pN2,qH2,fZ,sW2,Bool.false_or]at ho;obtain⟨⟨⟨⟨⟨h1,h2⟩,K⟩,C⟩,H⟩,L⟩:=ho;have m:d∉a:=by simpa using h2
  have E:c∈h:=by simpa using C
  have G:wanted t (some (c,w))=false:=by
   simp only[Sim.wanted];split;rename_i q M;exact absurd M (hd c E q);rfl
  obtain⟨fs,p,A,B,y,l⟩:=eH (some (c,w)) b (c::a) [] t H (fun z w' e=>by cases e;simp) G (fun c hc=>by simp at hc)
  have u:wanted p g=false:=by
   rw[uR (t:=t) (fun z w' e=>y z (fun hi=>dX b H z hi (by simp[hg z w' e])))];exact hw
  have F:∀c∈h,∀b,p[c]? ≠some (.v (.bool b)):=fun c hc b=>by
   rcases l c with l|l;rw[l];exact hd c hc b;rw[l];intro e;cases e
  have eF:∀i,(p.set d AV.undef)[i]? =p[i]? \/(p.set d AV.undef)[i]? =some AV.undef:=fun i=>by
   by_cases e:d=i;subst e;by_cases hl:d<p.length;exact .inr (by rw[qK2];simp[hl]);exact .inl (by rw[sR2 (Nat.le_of_not_lt hl)]);exact .inl (qM2 e)
  obtain⟨J,n,q1,q2,q3,q4⟩:=eH g r a (d::h) (p.set d AV.undef) L hg (by rw[mP hg m];exact u) (fun c hc b=>by
   by_cases f:d=c;subst f;rw[qK2];simp only[qQ2];split;intro e;cases e;intro e;cases e;rw[qM2 f];rcases qI2.1 hc with rfl|hc;exact absurd rfl f;exact F c hc b)
  refine⟨_,n,A.append (.skip u q1),by simp[q2,B],fun i hi=>?_,fun i=>?_⟩;simp only[bV,qI2,cJ b (bV r []) i,sI2]at hi;rw[q3 i hi.2.2,qM2 (Ne.symm hi.1),y i hi.2.1];rcases q4 i with q4|q4;rw[q4];rcases eF i with D|D;rw[D];exact l i;exact .inr D;exact .inr q4
 |.mkfl d ty zero xs kl r,a,h,t,ho,hg,hw,hd=>by
  simp only[iJ,pN2,qH2,fZ]at ho;obtain⟨⟨⟨h1,h2⟩,K⟩,C⟩:=ho;have m:d∉a:=by simpa using h2
  have eF:∀i,(t.set d AV.undef)[i]? =t[i]? \/(t.set d AV.undef)[i]? =some AV.undef:=fun i=>by
   by_cases e:d=i;subst e;by_cases hl:d<t.length;exact .inr (by rw[qK2];simp[hl]);exact .inl (by rw[sR2 (Nat.le_of_not_lt hl)]);exact .inl (qM2 e)
  obtain⟨fs,n,A,B,y,l⟩:=eH g r a (d::h) (t.set d AV.undef) C hg (by rw[mP hg m];exact hw) (fun c hc b=>by
   by_cases f:d=c;subst f;rw[qK2];simp only[qQ2];split;intro e;cases e;intro e;cases e;rw[qM2 f];rcases qI2.1 hc with rfl|hc;exact absurd rfl f;exact hd c hc b)
  refine⟨_,n,.skip (o:=⟨some d,.buildSl ty 1 xs.length zero (List.range xs.length),xs.map eX,g⟩) hw A,by simpa using B,fun i hi=>?_,fun i=>?_⟩;simp only[bV,qI2,sI2]at hi;rw[y i hi.2,qM2 (Ne.symm hi.1)];rcases l i with l|l;rw[l];exact eF i;exact .inr l
 |.sto k xs kl r,a,h,t,ho,hg,hw,hd=>by
  simp only[iJ,pN2]at ho;obtain⟨fs,n,A,B,y,l⟩:=eH g r a h t ho.2 hg hw hd;exact⟨_,n,.skip (o:=⟨none,k,xs.map eX,g⟩) hw A,B,y,l⟩
 |.lax d es r,a,h,t,ho,hg,hw,hd=>eH g r a h t (by simpa only[iJ]using ho) hg hw hd
 |.own d ty e g' r,a,h,t,ho,hg,hw,hd=>eH g r a h t (by simpa only[iJ]using ho) hg hw hd
 |.ownc d j ty e g' r,a,h,t,ho,hg,hw,hd=>eH g r a h t (by simpa only[iJ]using ho) hg hw hd
 |.laxc d j e r,a,h,t,ho,hg,hw,hd=>eH g r a h t (by simpa only[iJ]using ho) hg hw hd
 |.fz d j r,a,h,t,ho,hg,hw,hd=>eH g r a h t (by simpa only[iJ]using ho) hg hw hd
 |.laxm d j r,a,h,t,ho,hg,hw,hd=>eH g r a h t (by simpa only[iJ]using ho) hg hw hd
end
end Go.P
namespace Go.P
open Go.Sim (AV AO Hp eY upd St IC IX Ex dW CK Wf Out doOp gH exec Foot wanted put)
section
variable {R:Type} {T:gH} {O:rL} {X:NX} {dr:Nat}
theorem Nj (G:∀f xs v,O f xs=some v->lQ T f xs v) {C:Cx} {n:Nat} {h:aQ} {lim:Nat} {s:Hp} {k:dW} {as:aA PV} {ys:aA AV} {K:PV->aQ->Nat->aB R} {r:R}
  (j:cG C n h lim s) (x:LR (RV C) as ys) (hk:opK O X k as h n K=some r):
  ∃v h' n' C' y s',K v h' n'=some r/\RV C' v y/\cG C' n' h' lim s'/\C.le C'/\n<=n'/\Fr C h s C' h' s'/\(Gq k=false->∀id,id<s.n->Sim.look s'.h id=Sim.look s.h id)/\
   ∀(o:Sim.Op1) (os:aA Sim.Op1) (t:aA AV) (fs:aA Foot) (τ:St),o.k=k->wanted t o.guard=true->Sim.evs t o.xs=some ys->Tr T X.is dr lim os {t:=put t o.dst y,s:=s'} fs τ->∃f,Tr T X.is dr lim (o::os) {t:=t,s:=s} (f::fs) τ:=by
 have call:∀(f:FuncId) (xs:aA PV) (zs:aA AV) (k:dW),uK O f xs h (fun v=>K v h n)=some r->LR (RV C) xs zs->gR k=true->3<=kI X.is dr k->((∃ifn,T f=some ifn/\ifn.pure=true)->Sim.foot T k ys={all:=1})->
   (∀(d:Nat) (s:Hp),Sim.step T (exec T d) lim k ys s=Sim.callF T (exec T d) lim f zs s)->
   ∃v h' n' C' y s',K v h' n'=some r/\RV C' v y/\cG C' n' h' lim s'/\C.le C'/\n<=n'/\Fr C h s C' h' s'/\(Gq k=false->∀id,id<s.n->Sim.look s'.h id=Sim.look s.h id)/\
   ∀(o:Sim.Op1) (os:aA Sim.Op1) (t:aA AV) (fs:aA Foot) (τ:St),o.k=k->wanted t o.guard=true->Sim.evs t o.xs=some ys->Tr T X.is dr lim os {t:=put t o.dst y,s:=s'} fs τ->∃f,Tr T X.is dr lim (o::os) {t:=t,s:=s} (f::fs) τ:=by
  intro f xs zs k hk J hc l hf u;obtain⟨v,y,h1,h2,g,D,i⟩:=Gy (lim:=lim) G j hk J;refine⟨v,h,n,C,y,s,h1,.cl h2,j,.refl C,pQ2 _,.refl _ _ _,fun _ _ _=>rfl,fun o os t fs τ q hw he w=>⟨{all:=1},?_⟩⟩;subst q;exact .call hw he hc l (hf g) ⟨D,fun d hd m=>by rw[u];exact i d hd m⟩ w
 unfold opK at hk;split at hk;rename_i e f;cases hX:X.is f with
 |true=>rw[hX]at hk;exact aD hk
 |false=>
  rw[hX,qS2]at hk;refine call _ _ ys (.callF _) hk x rfl (by simp[kI,hX]) (fun⟨ifn,h1,h2⟩=>?_) (fun d s=>rfl);simp[Sim.foot,h1,h2]
 rename_i f first cap e
 obtain⟨y,z,rfl,h1,h2⟩:=x.inv_cons;obtain⟨a',b',rfl,g,i⟩:=uN h1;cases hX:X.is f with
 |true=>rw[hX]at hk;exact aD hk
 |false=>
  rw[hX,qS2]at hk;refine call f (first++e++cap) (a'++z++b') .callV hk ((g.append h2).append i) rfl (by simp only[kI];split<;>omega) (fun⟨ifn,L,M⟩=>?_) (fun d s=>rfl);simp[Sim.foot,L,M]
 rename_i k' e p H;obtain⟨v,h',n',C',out,h1,h2,g,i,A,B,E,F⟩:=Gw j x hk;refine⟨v,h',n',C',out.v,out.apply s,h1,g,i,A,B,E,F,fun o os t fs τ q hw he w=>?_⟩;subst q;refine⟨_,.op hw he ?_ h2 w⟩;cases hk':o.k with
 |callF f=>exact absurd hk' (p f)
 |callV=>
  rw[hk']at hk;unfold dB at hk;rcases e with _|⟨a,_|⟨b,_|⟨c,_|⟨d,t⟩⟩⟩⟩<;>exact aD hk
 |_=>rfl
theorem yC {t:aA AV} {c i:Nat} {x:PX} {N:Nat} (b:t.length=N) (a:Km N x=true):∃z,(eX x).ev t=some z:=by
 cases x with
 |t i=>
  simp only[Km,rY2]at a;exact⟨t[i]'(by omega),by simp[eX,IX.ev]⟩
 |c x=>exact⟨eV x,rfl⟩
theorem Hc {t:aA AV} {x y z:IX} {a b c:AV} (h1:x.ev t=some a) (h2:y.ev t=some b) (d:z.ev t=some c):Sim.evs t [x,y,z]=some [a,b,c]:=by
 simp[Sim.evs,h1,h2,d]
theorem Bg {N lim:Nat} {A:aA Nat} {C:Cx} {n:Nat} {h:aQ} {e:dY} {t:aA AV} {s:Hp} {c:Nat} {w m y:Bool} {d:gC} {x:PX} (E:cG C n h lim s) (F:t.length=N) (B:iJ N (c::A) true [] d=true) (D:Km N x=true)
  (hc:t[c]? =some (.v (.bool m)))
  (hy:(bif w then Is m (cU.opsB O X d e h n x) (some false)else Is m (some true) (cU.opsB O X d e h n x))=some y)
  (IH:cU.opsB O X d e h n x=some y->It (some (c,w)) t->∃fs o s',Tr T X.is dr lim (oL (some (c,w)) d) {t:=t,s:=s} fs {t:=o,s:=s'}/\(eX x).ev o=some (.v (.bool y))/\o.length=N/\(∀(i:Nat),i∉bV d []->o[i]? =t[i]?)/\Mx s s'):
  ∃fs a b,Tr T X.is dr lim (oL (some (c,w)) d) {t:=t,s:=s} fs {t:=a,s:=b}/\a.length=N/\(∀(i:Nat),i∉bV d []->a[i]? =t[i]?)/\Mx s b/\
     ∃zs,Sim.evs a (if w then[.t c,eX x,.c (.v (.bool false))]else[.t c,.c (.v (.bool true)),eX x])=some zs/\doOp (Sim.look b.h) lim b.n .pick zs=some {v:=.v (.bool y)}:=by
 have k:∀a:aA AV,(∀(i:Nat),i∉bV d []->a[i]? =t[i]?)->a[c]? =some (.v (.bool m)):=fun a q=>by
  rw[q c (fun hi=>dX d B c hi (by simp))];exact hc
 have skip:m≠w->∃fs a b,Tr T X.is dr lim (oL (some (c,w)) d) {t:=t,s:=s} fs {t:=a,s:=b}/\a.length=N/\(∀(i:Nat),i∉bV d []->a[i]? =t[i]?)/\Mx s b:=by
  intro p;obtain⟨fs,a,l,f,g,j⟩:=eH (T:=T) (NF:=X.is) (dr:=dr) (lim:=lim) (s:=s) (some (c,w)) d (c::A) [] t B (fun G w' e=>by cases e;simp) (by simp[Sim.wanted,hc,p]) (fun c hc=>by simp at hc);exact⟨fs,a,s,l,f.trans F,g,.refl E.wf⟩
 cases w with
 |true=>
  rw[qD2,mJ]at hy;cases m with
  |true=>
   rw[pW2 rfl]at hy;obtain⟨fs,a,b,l,f,g,j,u⟩:=IH hy hc;exact⟨fs,a,b,l,g,j,u,[.v (.bool true),.v (.bool y),.v (.bool false)],Hc (k a j) f rfl,rfl⟩
  |false=>
   simp only[qA2,qX2,pV2]at hy;subst hy;obtain⟨fs,a,b,l,f,g,j⟩:=skip (by simp);obtain⟨z,r⟩:=yC (c:=0) (i:=0) f D;exact⟨fs,a,b,l,f,g,j,[.v (.bool false),z,.v (.bool false)],Hc (k a g) r rfl,rfl⟩
 |false=>
  rw[qS2,mJ]at hy;cases m with
  |true=>
   simp only[qQ2,pV2]at hy;subst hy;obtain⟨fs,a,b,l,f,g,j⟩:=skip (by simp);obtain⟨z,r⟩:=yC (c:=0) (i:=0) f D;exact⟨fs,a,b,l,f,g,j,[.v (.bool true),.v (.bool true),z],Hc (k a g) rfl r,rfl⟩
  |false=>
   simp only[qA2,qX2]at hy;obtain⟨fs,a,b,l,f,g,j,u⟩:=IH hy hc;exact⟨fs,a,b,l,g,j,u,[.v (.bool false),.v (.bool true),.v (.bool y)],Hc (k a j) rfl f,rfl⟩
theorem rT (F:∀f xs v,O f xs=some v->lQ T f xs v) {N lim:Nat}:∀(ops:gC) (a l:aA Nat) (g:aB (Nat×Bool)) (C:Cx) (n:Nat) (h:aQ) (e:dY) (t:aA AV) (s:Hp) (x:PX) (b:Bool),
  cU.opsB O X ops e h n x=some b->cV C e t->cG C n h lim s->t.length=N->iJ N a true l ops=true->Km N x=true->It g t->GIn g a->
  ∃fs m s',Tr T X.is dr lim (oL g ops) {t:=t,s:=s} fs {t:=m,s:=s'}/\(eX x).ev m=some (.v (.bool b))/\m.length=N/\(∀(i:Nat),i∉bV ops []->m[i]? =t[i]?)/\Mx s s'
 |.nil,a,l,g,C,n,h,e,t,s,x,b,hk,he,hM,hN,ho,hx,hg,hgi=>by
  unfold cU.opsB at hk
  rw[gM,pM2]at hk
  obtain⟨vs,A,hk⟩:=hk
  obtain⟨ys,h1,h2⟩:=iN he (xs:=[x]) (by simpa using hx) A
  split at hk
  cases hk
  obtain⟨y,_,rfl,h3,h4⟩:=h2.inv_cons
  rw[h4.inv_nil]at h1
  rw[eQ h3]at h1
  refine⟨[],t,s,.nil,?_,hN,fun _ _=>rfl,.refl hM.wf⟩
  simp only[sC2,tJ2,Sim.evs]at h1
  split at h1
  grind
  cases h1
  exact aD hk
 |.op d k xs kl r,a,l,g,C,n,h,e,t,s,x,b,hk,he,hM,hN,ho,hx,hg,hgi=>by
  simp only[iJ,pN2,qH2,fZ,rY2]at ho
  obtain⟨⟨⟨o1,S⟩,G⟩,o4⟩:=ho
  have q:d∉a:=by simpa using S
  unfold cU.opsB at hk
  rw[gM,pM2]at hk
  obtain⟨vs,A,hk⟩:=hk
  obtain⟨ys,h1,h2⟩:=iN he G A
  cases hst:Gq k with
  |true=>rw[hst]at hk;exact aD hk
  |false=>
   rw[hst,qS2]at hk
   obtain⟨v,h',n',C',y,s',q1,q2,q3,q4,q5,q6,q7,q8⟩:=Nj F hM h2 hk
   rw[dR]at q1
   have hd:d<t.length:=by omega
   have u:cV C' ((d,v)::edel e (d::kl)) (t.set d y):=.put hd q2 (fun i w hw=>by
    obtain⟨z,p1,p2,p3⟩:=(he.mono q4).edel (d::kl) i w hw
    exact⟨z,p1,p2,fun J=>p3 (by simp[J])⟩)
   obtain⟨fs,m,s2,V,W,Y,Z,r5⟩:=rT F r a (d::l) g C' n' h' _ (t.set d y) s' x b q1 u q3 (by simpa using hN) o4 hx (hg.set hgi q) hgi
   obtain⟨f,hf⟩:=q8 ⟨some d,k,xs.map eX,g⟩ _ t fs _ rfl hg.wanted h1 V
   have P:Mx s s':=⟨q6.sk,q6.n,q3.wf,q7 hst⟩
   refine⟨_,m,s2,hf,W,Y,fun i hi=>?_,P.trans r5⟩
   simp only[bV,qI2,sI2]at hi
   rw[Z i hi.2,qM2 (Ne.symm hi.1)]
 |.ifx d c w bd x' kl r,a,l,g,C,n,h,e,t,s,x,b,hk,he,hM,hN,ho,hx,hg,hgi=>by
  simp only[iJ,pN2,qH2,fZ,rY2,sW2,Bool.false_or]at ho
  obtain⟨⟨⟨⟨⟨o1,S⟩,G⟩,o4⟩,U⟩,o6⟩:=ho
  have q:d∉a:=by simpa using S
  unfold cU.opsB at hk
  rw[eZ,pM2]at hk
  obtain⟨cv,L,hk⟩:=hk
  split at hk
  rename_i cb
  rw[bO,pM2]at hk
  obtain⟨y,hy,hk⟩:=hk
  rw[dR]at hk
  obtain⟨cy,B,K⟩:=he c _ L
  rw[eQ K]at B
  obtain⟨fs,H,s1,p1,p2,p3,p4,zs,p5,p6⟩:=Bg (T:=T) (O:=O) (X:=X) (dr:=dr) hM hN U G B hy (fun hb M=>rT F bd (c::a) [] (some (c,w)) C n h e t s x' y hb he hM hN U G M (fun E w' e=>by cases e;simp))
  have D:It g H:=by
   cases g with
   |none=>trivial
   |some p=>
    obtain⟨E,w'⟩:=p;simp only[It]at hg ⊢;rw[p3 E (fun hi=>dX bd U E hi (by simp[hgi E w' rfl]))];exact hg
  have hd:d<H.length:=by omega
  have u:cV C ((d,.v (.bool y))::edel e (d::bV bd kl)) (H.set d (.v (.bool y))):=.put hd (.cl (.v _)) (fun i w hw=>by
   obtain⟨z,q1,q2,q3⟩:=he.edel (d::bV bd kl) i w hw;have R:i∉bV bd []:=fun hi=>q3 (by simp[(cJ bd kl i).2 (.inl hi)]);exact⟨z,by rw[p3 i R];exact q1,q2,fun J=>q3 (by simp[J])⟩)
  obtain⟨a0,m,s2,V,W,Y,Z,r5⟩:=rT F r a (d::l) g C n h _ (H.set d (.v (.bool y))) s1 x b hk u (hM.grow p4) (by simpa using p2) o6 hx (D.set hgi q) hgi;refine⟨_,m,s2,p1.append (.op (o:=⟨some d,.pick,_,g⟩) D.wanted p5 rfl p6 V),W,Y,fun i hi=>?_,p4.trans r5⟩;simp only[bV,qI2,cJ bd (bV r []) i,sI2]at hi;rw[Z i hi.2.2,qM2 (Ne.symm hi.1),p3 i hi.2.1];exact aD hk
 |.sto k xs kl r,a,l,g,C,n,h,e,t,s,x,b,hk,he,hM,hN,ho,hx,hg,hgi=>by unfold cU.opsB at hk;exact aD hk
 |.ifn d c w bd x' kl r,a,l,g,C,n,h,e,t,s,x,b,hk,he,hM,hN,ho,hx,hg,hgi=>by unfold cU.opsB at hk;exact aD hk
 |.mkfl d ty zero xs kl r,a,l,g,C,n,h,e,t,s,x,b,hk,he,hM,hN,ho,hx,hg,hgi=>by unfold cU.opsB at hk;exact aD hk
 |.lax d es r,a,l,g,C,n,h,e,t,s,x,b,hk,he,hM,hN,ho,hx,hg,hgi=>by unfold cU.opsB at hk;exact aD hk
 |.own d ty es g' r,a,l,g,C,n,h,e,t,s,x,b,hk,he,hM,hN,ho,hx,hg,hgi=>by unfold cU.opsB at hk;exact aD hk
 |.ownc d j ty es g' r,a,l,g,C,n,h,e,t,s,x,b,hk,he,hM,hN,ho,hx,hg,hgi=>by unfold cU.opsB at hk;exact aD hk
 |.laxc d j es r,a,l,g,C,n,h,e,t,s,x,b,hk,he,hM,hN,ho,hx,hg,hgi=>by unfold cU.opsB at hk;exact aD hk
 |.fz d j r,a,l,g,C,n,h,e,t,s,x,b,hk,he,hM,hN,ho,hx,hg,hgi=>by unfold cU.opsB at hk;exact aD hk
 |.laxm d j r,a,l,g,C,n,h,e,t,s,x,b,hk,he,hM,hN,ho,hx,hg,hgi=>by unfold cU.opsB at hk;exact aD hk
end
end Go.P
namespace Go.P
open Go.Sim (AV AO Hp eY upd St IC IX Ex dW CK Wf Out doOp gH exec Foot wanted put)
def iY (C:Cx) (p:Nat->Bool):Cx:=⟨fun k=>if p k then C k else none,C.z⟩
theorem vL {C:Cx} {p:Nat->Bool} {x:PV} {y:AV} (h:RV C x y):∀{d:Nat},kC p d x=true->RV (iY C p) x y:=by
 have lt:∀{k:Nat} {pl:Pl},C k=some pl->p k=true->iY C p k=some pl:=fun h1 h2=>by simp[iY,h2,h1]
 induction h with
 |cl h=>intro d hb;exact .cl h
 |undef=>intro d hb;exact .undef
 |ref h=>intro d hb;cases d with
  |zero=>cases hb
  |succ d=>exact .ref (lt h hb)
 |own h=>intro d hb;cases d with
  |zero=>cases hb
  |succ d=>exact .own (lt h hb)
 |ownn h hy=>intro d hb;cases d with
  |zero=>cases hb
  |succ d=>exact .ownn (lt h hb) hy
 |el h=>intro d hb;cases d with
  |zero=>cases hb
  |succ d=>exact .el (lt h hb)
 |map h=>intro d hb;cases d with
  |zero=>cases hb
  |succ d=>exact .map (lt h hb)
 |yld h=>intro d hb;cases d with
  |zero=>cases hb
  |succ d=>exact .yld (lt h hb)
 |fn h1 h2 v1 v2 i1 i2=>intro d hb;cases d with
  |zero=>cases hb
  |succ d=>
   simp only[kC,pN2]at hb;exact .fn h1 h2 (fun j x y a hy=>i1 j x y a hy (pX2.1 hb.1 x (pZ2 a))) (fun j x y a hy=>i2 j x y a hy (pX2.1 hb.2 x (pZ2 a)))
 |agg hl hc ih=>intro d hb;cases d with
  |zero=>cases hb
  |succ d=>exact .agg hl (fun j x y a hy=>ih j x y a hy (pX2.1 hb x (pZ2 a)))
 |tup hl hc ih=>intro d hb;cases d with
  |zero=>cases hb
  |succ d=>exact .tup hl (fun j x y a hy=>ih j x y a hy (pX2.1 hb x (pZ2 a)))
 |zs h=>intro d hb;exact .zs h
 |zm h he=>intro d hb;exact .zm h he
 |zm0=>intro d hb;exact .zm0
theorem vM:∀(h:aQ) (k:Nat),gE h k=(aL h k).isSome
 |[],k=>rfl
 |(j,o)::r,k=>by
  simp only[gE,aL,bJ]
  by_cases e:j=k<;>simp[e,vM r k]
section
variable {R:Type}
theorem oN:∀{h:aQ} {c:aA Nat} {K:aQ->aQ->aB R} {r:R},Gn h c K=some r->∃a b,K a b=some r/\∀k,aL a k=(if zL k c then aL h k else none)/\aL b k=(if zL k c then none else aL h k)
 |[],c,K,r,hk=>⟨[],[],hk,fun k=>by simp[aL]⟩
 |(j,o)::t,c,K,r,hk=>by
  unfold Gn at hk
  obtain⟨a,b,h1,h2⟩:=oN hk
  cases hm:zL j c with
  |true=>
   rw[hm,qD2]at h1
   refine⟨_,_,h1,fun k=>?_⟩
   simp only[aL]
   by_cases e:j=k
   grind
   grind
  |false=>
   rw[hm,qS2]at h1
   refine⟨_,_,h1,fun k=>?_⟩
   simp only[aL]
   by_cases e:j=k
   grind
   grind
theorem Bh:∀{a b:aQ} {K:aQ->aB R} {r:R},xM a b K=some r->∃c,K c=some r/\∀k,aL c k=(aL a k).or (aL b k)
 |[],b,K,r,hk=>⟨b,hk,fun k=>by simp[aL]⟩
 |(j,o)::t,b,K,r,hk=>by
  unfold xM at hk
  obtain⟨c,h1,h2⟩:=Bh hk
  refine⟨_,h1,fun k=>?_⟩
  simp only[aL]
  by_cases e:j=k
  simp[e]
  grind
theorem Bi:∀(a:aQ) (K:aQ->aB R),xM a [] K=K a
 |[],K=>rfl
 |(j,o)::t,K=>by unfold xM;rw[Bi t]
theorem eU {f:PV->aA Nat->(aA Nat->aB R)->aB R} (hf:∀x a K r,f x a K=some r->∃a',K a'=some r):∀(xs:aA PV) (a:aA Nat) (K:aA Nat->aB R) (r:R),nR f xs a K=some r->∃a',K a'=some r
 |[],a,K,r,h=>⟨a,h⟩
 |x::xs,a,K,r,h=>by
  unfold nR at h
  obtain⟨a',h⟩:=hf x a _ r h
  exact eU hf xs a' K r h
theorem yD {f:PV->aA Nat->(aA Nat->aB R)->aB R} (hf:∀x a K r,f x a K=some r->∃a',K a'=some r):∀(xs:dY) (a:aA Nat) (K:aA Nat->aB R) (r:R),Mq f xs a K=some r->∃a',K a'=some r
 |[],a,K,r,h=>⟨a,h⟩
 |(_,x)::xs,a,K,r,h=>by
  unfold Mq at h
  obtain⟨a',h⟩:=hf x a _ r h
  exact yD hf xs a' K r h
theorem gA:∀(d:Nat) (x:PV) (a:aA Nat) (K:aA Nat->aB R) (r:R),iU d x a K=some r->∃a',K a'=some r
 |0,x,a,K,r,h=>by unfold iU at h;exact aD h
 |d+1,x,a,K,r,h=>by
  have ih:=gA d
  unfold iU at h
  cases x with
  |ref k o=>exact⟨_,h⟩
  |own k=>exact⟨_,h⟩
  |el k i o=>exact⟨_,h⟩
  |map k=>exact⟨_,h⟩
  |yld k=>exact⟨_,h⟩
  |fn f p q=>
   obtain⟨a',h⟩:=eU ih p a _ r h
   exact eU ih q a' K r h
  |agg cs=>exact eU ih cs a K r h
  |tup cs=>exact eU ih cs a K r h
  |_=>exact⟨_,h⟩
theorem eE {h:aQ}:∀(n:Nat) (b a:aA Nat) (K:aA Nat->aB R) (r:R),kB h n b a K=some r->∃a',K a'=some r
 |0,b,a,K,r,hk=>by unfold kB at hk;exact aD hk
 |n+1,[],a,K,r,hk=>by unfold kB at hk;exact⟨a,hk⟩
 |n+1,k::b,a,K,r,hk=>by
  unfold kB at hk
  cases hm:zL k a with
  |true=>rw[hm,qD2]at hk;exact eE n b a K r hk
  |false=>
   rw[hm,qS2,eG,pM2]at hk
   obtain⟨ob,_,hk⟩:=hk
   cases ob with
   |box cs=>
    obtain⟨c,hk⟩:=eU (gA 4) cs b _ r hk
    exact eE n c _ K r hk
   |fl cs=>
    obtain⟨c,hk⟩:=eU (gA 4) cs b _ r hk
    exact eE n c _ K r hk
   |loop N e ps x y busy fin=>
    obtain⟨c,hk⟩:=yD (gA 4) e b _ r hk
    exact eE n c _ K r hk
   |lst ty e g rows=>exact eE n b _ K r hk
   |lz ty e dp rows=>exact eE n b _ K r hk
   |mp es=>exact eE n b _ K r hk
def Vj (hs:aQ) (C C':Cx):Prop:=(∀k,C' k=C k\/∃o,(k,o)∈hs/\eM o=false)/\∀id o,C.z id=some o->C'.z id=some o
theorem pY:∀{hs:aQ} {e:dY} {h:aQ} {K:dY->aQ->aB R} {r:R},mL hs e h K=some r->∃e' h',K e' h'=some r/\
  (∀i w,dQ e' i=some w->∃v,dQ e i=some v/\∀{C C':Cx} {y:AV},Vj hs C C'->RV C v y->RV C' w y)/\
  (∀j,aL h' j=none↔aL h j=none)/\∀j o',aL h' j=some o'->∃o,aL h j=some o/\eM o'=eM o/\
   ∀{C C':Cx} {L:Nat->aB AO} {lim nS:Nat} {pl:Pl},Vj hs C C'->iH C L lim nS o pl->iH C' L lim nS o' pl
 |[],e,h,K,r,hk=>by
  refine⟨e,h,hk,fun i w hw=>⟨w,hw,fun{C C' y} hd hv=>?_⟩,fun j=>Iff.rfl,fun j o m=>⟨o,m,rfl,fun{C C' L lim nS pl} hd p=>?_⟩⟩
  have:∀k,C' k=C k:=fun k=>(hd.1 k).elim id (fun⟨_,h1,_⟩=>by simp at h1)
  exact hv.mono ⟨fun k pl h=>(this k).trans h,hd.2⟩
  have:∀k,C' k=C k:=fun k=>(hd.1 k).elim id (fun⟨_,h1,_⟩=>by simp at h1)
  exact p.mono (pQ2 _) ⟨fun k pl h=>(this k).trans h,hd.2⟩ (fun _ _ _ _ _=>rfl)
 |(k,o)::t,e,h,K,r,hk=>by
  have other:eM o=true->mL t e h K=some r->∃e' h',K e' h'=some r/\
    (∀i w,dQ e' i=some w->∃v,dQ e i=some v/\∀{C C':Cx} {y:AV},Vj ((k,o)::t) C C'->RV C v y->RV C' w y)/\
    (∀j,aL h' j=none↔aL h j=none)/\∀j o',aL h' j=some o'->∃c,aL h j=some c/\eM o'=eM c/\
     ∀{C C':Cx} {L:Nat->aB AO} {lim nS:Nat} {pl:Pl},Vj ((k,o)::t) C C'->iH C L lim nS c pl->iH C' L lim nS o' pl:=by
   intro s hk;obtain⟨e',h',q1,q2,q3,q4⟩:=pY hk
   have hd:∀{C C':Cx},Vj ((k,o)::t) C C'->Vj t C C':=fun{C C'} hd=>⟨fun j=>by
    rcases hd.1 j with h1|⟨c,h1,hx⟩
    exact .inl h1;rcases qI2.1 h1 with h2|h2;cases h2;rw[s]at hx;cases hx;exact .inr ⟨_,h2,hx⟩,hd.2⟩
   refine⟨e',h',q1,fun i w hw=>?_,q3,fun j o' m=>?_⟩;obtain⟨v,p1,p2⟩:=q2 i w hw;exact⟨v,p1,fun d hv=>p2 (hd d) hv⟩;obtain⟨c,p1,p2,p3⟩:=q4 j o' m;exact⟨c,p1,p2,fun d p=>p3 (hd d) p⟩
  have f:eM o=false->(mS k e fun e=>iR k h fun h=>mL t e h K)=some r->∃e' h',K e' h'=some r/\
    (∀i w,dQ e' i=some w->∃v,dQ e i=some v/\∀{C C':Cx} {y:AV},Vj ((k,o)::t) C C'->RV C v y->RV C' w y)/\
    (∀j,aL h' j=none↔aL h j=none)/\∀j o',aL h' j=some o'->∃c,aL h j=some c/\eM o'=eM c/\
     ∀{C C':Cx} {L:Nat->aB AO} {lim nS:Nat} {pl:Pl},Vj ((k,o)::t) C C'->iH C L lim nS c pl->iH C' L lim nS o' pl:=by
   intro hb hk;obtain⟨e2,hk,q⟩:=iK _ _ _ hk;obtain⟨h2,hk,n⟩:=jQ _ _ _ hk;obtain⟨e',h',q1,q2,q3,q4⟩:=pY hk
   have l:∀{C C':Cx},Vj ((k,o)::t) C C'->jK k C ⟨fun j=>if j=k then C' j else C j,C'.z⟩/\Vj t ⟨fun j=>if j=k then C' j else C j,C'.z⟩ C':=fun{C C'} hd=>by
    refine⟨⟨fun j m=>pT2 m,hd.2⟩,⟨fun j=>?_,fun _ _ h=>h⟩⟩;by_cases e:j=k;exact .inl (by simp[e]);rcases hd.1 j with h1|⟨c,h1,hx⟩
    exact .inl (by simp[e,h1]);rcases qI2.1 h1 with h2|h2;cases h2;exact absurd rfl e;exact .inr ⟨_,h2,hx⟩
   refine⟨e',h',q1,fun i w hw=>?_,fun j=>(q3 j).trans (n.1 j),fun j o' m=>?_⟩;obtain⟨v,p1,p2⟩:=q2 i w hw;obtain⟨x,w1,w2⟩:=q i v p1;exact⟨x,w1,fun d hv=>p2 (l d).2 (w2 (l d).1 hv)⟩;obtain⟨c,p1,p2,p3⟩:=q4 j o' m;obtain⟨u,w1,w2,w3⟩:=n.2 j c p1;exact⟨u,w1,p2.trans w2,fun d p=>p3 (l d).2 (w3 (l d).1 p)⟩
  unfold mL at hk;cases o with
  |box cs=>exact other rfl hk
  |mp es=>exact other rfl hk
  |fl fs=>exact other rfl hk
  |loop N e ps a b busy fin=>exact other rfl hk
  |lz ty e1 dp rows=>exact f rfl hk
  |lst ty e1 g rows=>
   cases hfx:fM ty with
   |true=>
    simp only[hfx,qD2]at hk;exact other hfx hk
   |false=>
    simp only[hfx,qS2]at hk;exact f hfx hk
end
end Go.P
namespace Go.P
open Go.Sim (AV AO Hp eY upd St IC IX Ex dW CK Wf Out doOp gH exec Foot wanted put)
section
variable {R:Type} {C:Cx} {n:Nat} {h:aQ} {lim:Nat} {s:Hp}
theorem yE:∀{e:dY} {i:Nat} {v:PV},dQ e i=some v->(i,v)∈e
 |[],i,v,h=>by simp[dQ]at h
 |(j,w)::r,i,v,h=>by
  simp only[dQ]at h
  split at h
  grind
  exact sD2 _ (yE h)
theorem He:∀{h:aQ} {i:Nat} {v:fP},aL h i=some v->(i,v)∈h
 |[],i,v,h=>by simp[aL]at h
 |(j,w)::r,i,v,h=>by
  simp only[aL]at h
  split at h
  grind
  exact sD2 _ (He h)
theorem Db {p:Nat->Bool} {xs:aA PV} {ys:aA AV} {d:Nat} (h:LR (RV C) xs ys) (hp:xs.all (kC p d)=true):LR (RV (iY C p)) xs ys:=
 ⟨h.1,fun j x y a b=>vL (h.2 j x y a b) (pX2.1 hp x (pZ2 a))⟩
theorem Vk {p:Nat->Bool} {L:Nat->aB AO} {nS:Nat} {o:fP} {pl:Pl} (m:Ct p o=true) (h:iH C L lim nS o pl):iH (iY C p) L lim nS o pl:=by
 cases o with
 |box cs=>
  cases pl with
  |nil=>exact h
  |atp id ver e len=>
   obtain⟨h1,h2,ty,esz,row,c,j⟩:=h;exact⟨h1,h2,ty,esz,row,c,Db j m⟩
 |lst ty e g rows=>cases pl<;>exact h
 |lz ty e dp rows=>cases pl<;>exact h
 |mp es=>cases pl<;>exact h
 |fl fs=>
  cases pl with
  |nil=>exact h
  |atp id ver e len=>
   obtain⟨h1,h2,c,j,ty,els,k,l,n⟩:=h;refine⟨h1,h2,c,j,ty,els,k,l,fun i f row a b=>Db (d:=4) (n i f row a b) ?_⟩;have:=pX2.1 m f (pZ2 a);simp[this]
 |loop N e ps a b busy fin=>
  cases pl with
  |nil=>exact h
  |atp id ver e' len=>
   obtain⟨h1,h2,st,pend,tmps,c,j,k,l⟩:=h;refine⟨h1,h2,st,pend,tmps,c,j,fun i v hv=>?_,l⟩;obtain⟨y,q,r⟩:=k i v hv;exact⟨y,q,vL r (pX2.1 m _ (yE hv))⟩
theorem rU {p:Nat->Bool}:∀{h:aQ},iA p h=true->∀{k:Nat} {o:fP},aL h k=some o->Ct p o=true
 |[],_,k,o,h=>by simp[aL]at h
 |(j,o')::r,hp,k,o,h=>by
  simp only[iA,pN2]at hp
  simp only[aL]at h
  split at h
  cases h;exact hp.1
  exact rU hp.2 h
theorem pZ:∀{h:aQ} {k:Nat},aL h k≠none->k∈pU h
 |[],k,h=>by simp[aL]at h
 |(j,o)::r,k,h=>by
  simp only[aL]at h
  simp only[pU,qI2]
  split at h
  omega
  exact .inr (pZ h)
theorem tJ {a:aQ}:∀{ks:aA Nat},Pt a ks=true->∀k∈ks,aL a k≠none
 |[],_,k,hk=>by simp at hk
 |j::r,h,k,hk=>by
  unfold Pt at h
  cases hh:gE a j with
  |false=>rw[hh]at h;cases h
  |true=>
   rw[hh,qD2]at h
   rcases qI2.1 hk with rfl|hk
   rw[vM]at hh
   cases hg:aL a k with
   |none=>rw[hg]at hh;cases hh
   |some o=>simp
   exact tJ h k hk
theorem Bj {hs:aQ}:∀{a:aQ},Ps hs n a=true->∀{k:Nat},aL a k≠none->aL hs k≠none\/n<=k
 |[],_,k,hk=>by simp[aL]at hk
 |(j,o)::r,h,k,hk=>by
  unfold Ps at h
  cases b:(gE hs j||Nat.ble n j)with
  |false=>rw[b]at h;cases h
  |true=>
   rw[b,qD2]at h
   simp only[aL]at hk
   split at hk
   rename_i e
   subst e
   simp only[qC2,vM,Nat.ble_eq]at b
   rcases b with b|b
   grind
   exact .inr b
   exact Bj h hk
theorem iC {h:aQ} {k:Nat}:gE h k=true↔aL h k≠none:=by
 rw[vM];cases aL h k<;>simp
theorem cG.part {hs:aQ} (g:cG C n h lim s) (f:∀k o,aL hs k=some o->aL h k=some o) (m:iA (gE hs) hs=true):cG (iY C (gE hs)) n hs lim s:=by
 have j:∀k,aL hs k≠none->aL h k≠none:=fun k hk=>by
  cases hc:aL hs k with
  |none=>exact absurd hc hk
  |some o=>rw[f k o hc];simp
 have i:∀k pl,iY C (gE hs) k=some pl->C k=some pl:=fun k pl hk=>by
  simp only[iY]at hk;split at hk;exact hk;cases hk
 refine⟨⟨fun k o hk=>?_,fun k k' id v e l v' e' l' a b c d=>g.hr.inj k k' id v e l v' e' l' (j k a) (j k' b) (i _ _ c) (i _ _ d),fun id o p=>?_⟩,fun k pl hk=>g.dom k pl (i k pl hk),g.wf,g.lim⟩;obtain⟨pl,h1,h2⟩:=g.hr.ob k o (f k o hk);refine⟨pl,?_,Vk (rU m hk) h2⟩;simp only[iY];rw[pW2 (iC.2 (by rw[hk];simp))];exact h1;obtain⟨z1,z2,z3,z4⟩:=g.hr.zr id o p;exact⟨z1,z2,fun k v e l a b=>z3 k v e l (j k a) (i _ _ b),z4⟩
theorem oO {hs:aQ}:∀{a:aQ},Pu hs a=true->∀{k:Nat},aL a k≠none->aL hs k≠none
 |[],_,k,hk=>by simp[aL]at hk
 |(j,o)::r,h,k,hk=>by
  unfold Pu at h
  cases hh:gE hs j with
  |false=>rw[hh]at h;cases h
  |true=>
   rw[hh,qD2]at h
   simp only[aL]at hk
   split at hk
   rename_i e;subst e;exact iC.1 hh
   exact oO h hk
theorem Dc:∀(h:aQ) (m:Nat),m<=Yt h m
 |[],m=>pQ2 _
 |(k,o)::r,m=>by
  unfold Yt
  cases hb:Nat.blt k m with
  |true=>rw[qD2];exact Dc r m
  |false=>
   rw[qS2]
   have:=Dc r (k+1)
   have h2:¬k<m:=fun a=>by rw[<-rY2,hb]at a;cases a
   omega
theorem yF:∀(h:aQ) (m k:Nat),aL h k≠none->k<Yt h m
 |[],m,k,hk=>by simp[aL]at hk
 |(j,o)::r,m,k,hk=>by
  simp only[aL]at hk
  unfold Yt
  cases hb:Nat.blt j m with
  |true=>
   rw[qD2]
   split at hk
   rename_i e
   rw[rY2]at hb
   have:=Dc r m
   omega
   exact yF r m k hk
  |false=>
   rw[qS2]
   split at hk
   have:=Dc r (j+1);omega
   exact yF r (j+1) k hk
theorem Dd {P:AV->Hp->Prop} {run:aQ->Nat->(PV->aQ->Nat->aB (PV×aQ×Nat))->aB (PV×aQ×Nat)} {xs:aA PV} {ys:aA AV} {e:dY} {t:aA AV} {kill:aA Nat} {nw:Bool} {K:PV->dY->aQ->Nat->aB R} {r:R}
  (E:cG C n h lim s) (he:cV C e t) (hx:LR (RV C) xs ys)
  (b6:∀(hs:aQ) (C0:Cx) (m:Nat) (K':PV->aQ->Nat->aB (PV×aQ×Nat)) (r':PV×aQ×Nat),cG C0 m hs lim s->LR (RV C0) xs ys->run hs m K'=some r'->
   ∃v h' n' C' y s',K' v h' n'=some r'/\RV C' v y/\cG C' n' h' lim s'/\m<=n'/\Fr C0 hs s C' h' s'/\P y s')
  (hk:inK run nw xs e h n kill K=some r):
  ∃v e' h' n' C' y s',K v e' h' n'=some r/\RV C' v y/\(∀i w,dQ e' i=some w->∃z,t[i]? =some z/\RV C' w z/\i∉kill)/\cG C' n' h' lim s'/\n<=n'/\Fr C h s C' h' s'/\P y s':=by
 unfold inK at hk;obtain⟨d8,hk⟩:=eU (gA 5) _ _ _ _ hk;obtain⟨ns,hk⟩:=eE _ _ _ _ _ hk;obtain⟨hs,T,hk,u⟩:=oN hk;cases hch:(xs.all (kC (gE hs) 5)&&iA (gE hs) hs)with
 |false=>rw[hch]at hk;exact aD hk
 |true=>
 rw[hch,qD2,bO,pM2]at hk;obtain⟨r',hq,hk⟩:=hk;simp only[pN2]at hch
 have G:∀k o,aL hs k=some o->aL h k=some o:=fun k o f=>by
  rw[(u k).1]at f;split at f;exact f;cases f
 have b7:∀{k},aL hs k≠none->k<n:=fun{k} hk=>by
  cases hc:aL hs k with
  |none=>exact absurd hc hk
  |some o=>obtain⟨pl,p1,_⟩:=E.hr.ob k o (G k o hc);exact E.dom k pl p1
 have F:=E.part G hch.2
 have b9:cG (iY C (gE hs)) (bif nw then n else Yt hs 0) hs lim s:=⟨F.hr,(fun k pl j=>by
  cases nw with
  |true=>exact F.dom k pl j
  |false=>
   simp only[iY]at j;split at j;rename_i O;exact yF hs 0 k (iC.1 O);cases j),F.wf,F.lim⟩
 obtain⟨v,h',n',C',y,s',w1,w2,w3,w4,w5,w6⟩:=b6 hs _ _ _ r' b9 (Db hx hch.1) hq;unfold zM at w1;obtain⟨d7,w1⟩:=eU (gA 5) _ _ _ _ w1;obtain⟨d9,w1⟩:=eE _ _ _ _ _ w1;obtain⟨h2,_,w1,U⟩:=oN w1;cases hch2:(Pt h2 (pU hs)&&(bif nw then Ps hs (bif nw then n else Yt hs 0) h2 else Pu hs h2)&&(kC (gE h2) 5 v&&iA (gE h2) h2))with
 |false=>rw[hch2]at w1;exact aD w1
 |true=>
 rw[hch2,qD2]at w1;cases w1;simp only[pN2]at hch2;obtain⟨⟨c1,c2⟩,c3,c4⟩:=hch2;have d2:∀{k},aL hs k≠none->aL h2 k≠none:=fun{k} hk=>tJ c1 k (pZ hk)
 have V:∀{k},aL h2 k≠none->aL hs k≠none\/n<=k:=fun{k} S=>by
  cases nw with
  |true=>exact Bj c2 S
  |false=>exact .inl (oO c2 S)
 have A:∀k o,aL h2 k=some o->aL h' k=some o:=fun k o f=>by
  rw[(U k).1]at f;split at f;exact f;cases f
 have d1:=w3.part A c4;rw[Mw]at hk;simp only[Bi,dR]at hk;obtain⟨e',H,hk,k1,k2,k3⟩:=pY hk;obtain⟨hc,hk,k4⟩:=Bh hk;let C3:Cx:=⟨fun k=>if gE h2 k then C' k else C k,C'.z⟩
 let C1:Cx:=⟨fun k=>if k<n then C3 k else none,C'.z⟩
 have c3in:∀{k},aL h2 k≠none->C3 k=C' k:=fun{k} hk=>pW2 (iC.2 hk);have c3out:∀{k},aL h2 k=none->C3 k=C k:=fun{k} hk=>pT2 (fun O=>iC.1 O hk)
 have S:∀{k},aL h k≠none->k<n:=fun{k} hk=>by
  cases hc:aL h k with
  |none=>exact absurd hc hk
  |some o=>obtain⟨pl,p1,_⟩:=E.hr.ob k o hc;exact E.dom k pl p1
 have d5:∀{k},aL hs k≠none->aL h k≠none:=fun{k} hk=>by
  cases hc:aL hs k with
  |none=>exact absurd hc hk
  |some o=>rw[G k o hc];simp
 have rs:∀{k},aL hs k≠none->iY C (gE hs) k=C k:=fun{k} hk=>by simp only[iY];rw[pW2 (iC.2 hk)]
 have d6:∀{k pl},iY C (gE hs) k=some pl->C k=some pl:=fun{k pl} hk=>by
  simp only[iY]at hk;split at hk;exact hk;cases hk
 have Y:∀{k pl},iY C' (gE h2) k=some pl->C3 k=some pl:=fun{k pl} hk=>by
  simp only[iY]at hk;split at hk;rename_i O;rw[c3in (iC.1 O)];exact hk;cases hk
 have Z:Vj h2 C C1:=⟨fun k=>(by
  by_cases b0:k<n;have e1:C1 k=C3 k:=pW2 b0;rw[e1];by_cases g:aL h2 k=none;exact .inl (c3out g);rw[c3in g];rcases V g with hq|hq;cases hc2:aL hs k with
  |none=>exact absurd hc2 hq
  |some o=>
   obtain⟨o',q1,q2⟩:=w5.kd k o hc2
   have q3:aL h2 k=some o':=by
    cases hc3:aL h2 k with
    |none=>exact absurd hc3 g
    |some o2=>rw[A k o2 hc3]at q1;exact q1
   cases hb:eM o' with
   |true=>left;rw[(q2 hb).2,rs hq]
   |false=>
    right;exact⟨o',He q3,hb⟩
  omega;left;have:C1 k=none:=pT2 b0;rw[this,Uk E (by omega)]),w5.zl⟩
 have c13:C1.le C3:=⟨fun k pl hk=>(by
  simp only[C1]at hk;split at hk;exact hk;cases hk),fun _ _ h=>h⟩
 have M:∀{k o'},aL H k=some o'->∃o,aL h k=some o/\aL hs k=none/\aL h2 k=none/\eM o'=eM o/\∀{L:Nat->aB AO} {lim nS:Nat} {pl:Pl},iH C L lim nS o pl->iH C1 L lim nS o' pl:=fun{k o'} f=>by
  obtain⟨o,q1,q2,q3⟩:=k3 k o' f;rw[(u k).2]at q1;split at q1;cases q1;rename_i W;have h1:aL hs k=none:=by rw[(u k).1,pT2 W]
  refine⟨o,q1,h1,?_,q2,fun d4=>q3 Z d4⟩;cases hc2:aL h2 k with
  |none=>rfl
  |some o2=>
   rcases V (k:=k) (by rw[hc2];simp)with q|q;exact absurd h1 q;have:=S (k:=k) (by rw[q1];simp);omega
 have N:∀{k},aL hc k≠none->aL h2 k≠none\/(aL h2 k=none/\aL H k≠none):=fun{k} hk=>by
  rw[k4 k]at hk;cases hc2:aL h2 k with
  |none=>right;refine⟨rfl,?_⟩;rw[hc2]at hk;simpa using hk
  |some o=>left;simp
 have p:∀{k},aL H k≠none->aL h k≠none/\aL hs k=none/\aL h2 k=none:=fun{k} hk=>by
  cases hc2:aL H k with
  |none=>exact absurd hc2 hk
  |some o'=>obtain⟨o,q1,q2,q3,_⟩:=M hc2;exact⟨by rw[q1];simp,q2,q3⟩
 have J:∀{k},aL h2 k≠none->aL h' k≠none:=fun{k} hk=>by
  cases hc2:aL h2 k with
  |none=>exact absurd hc2 hk
  |some o=>rw[A k o hc2];simp
 have B:∀{id},Own (iY C (gE hs)) hs id->∃k v e l,aL hs k≠none/\aL h k≠none/\C k=some (.atp id v e l):=fun{id} T=>by
  obtain⟨k,v,e,l,q1,q2⟩:=T;exact⟨k,v,e,l,q1,d5 q1,d6 q2⟩
 have D:∀{k id v e l},aL h k≠none->aL hs k=none->C k=some (.atp id v e l)->¬Own (iY C (gE hs)) hs id:=fun{k id v e l} a b c T=>by
  obtain⟨k',v',e',l',q1,q2,q3⟩:=B T;have:=E.hr.inj k k' id _ _ _ _ _ _ a q2 c q3;subst this;exact q1 b
 have b8:∀{k k' id v e l v' e' l'},aL h2 k≠none->aL H k'≠none->C3 k=some (.atp id v e l)->C3 k'=some (.atp id v' e' l')->False:=fun{k k' id v e l v' e' l'} a b c d=>by
  obtain⟨b1,b2,b3⟩:=p b;rw[c3in a]at c;rw[c3out b3]at d;have x:=(E.hr.lt b1 d).2;exact D b1 b2 d (w5.own id x ⟨k,v,e,l,J a,c⟩)
 refine⟨v,e',hc,_,C3,y,s',hk,(vL w2 c3).mono ⟨fun _ _ O=>Y O,fun _ _ h=>h⟩,fun i w hw=>?_,⟨⟨fun k o f=>?_,fun k k' id v e l v' e' l' a b c d=>?_,fun id o hz=>?_⟩,fun k pl j=>?_,w3.wf,w3.lim⟩,?_,⟨w5.sk,w5.n,fun id x hn=>w5.keep id x (fun T=>hn ?_),fun id x T=>?_,fun k o f=>?_,w5.zl,fun id x hz=>?_⟩,w6⟩;obtain⟨v0,q1,q2⟩:=k1 i w hw;obtain⟨z,p1,p2,p3⟩:=he.edel kill i v0 q1;exact⟨z,p1,(q2 Z p2).mono c13,p3⟩;rw[k4 k]at f;cases hc2:aL h2 k with
 |some o2=>
  rw[hc2]at f;cases f;obtain⟨pl,q1,q2⟩:=d1.hr.ob k _ hc2;exact⟨pl,Y q1,q2.mono (pQ2 _) ⟨fun _ _ O=>Y O,fun _ _ h=>h⟩ (fun _ _ _ _ _=>rfl)⟩
 |none=>
  rw[hc2]at f;obtain⟨o0,q1,q2,q3,q4,q5⟩:=M (by simpa using f);obtain⟨pl,p1,p2⟩:=E.hr.ob k o0 q1;refine⟨pl,by rw[c3out hc2];exact p1,(q5 p2).mono w5.n c13 (fun id v e l hp=>?_)⟩;subst hp;exact w5.keep id p2.lt.2 (D (by rw[q1];simp) q2 p1)
 rcases N a with a|⟨a1,a⟩<;>rcases N b with b|⟨b1,b⟩
 rw[c3in a]at c;rw[c3in b]at d;exact w3.hr.inj k k' id v e l v' e' l' (J a) (J b) c d;exact(b8 a b c d).elim;exact(b8 b a d c).elim;rw[c3out a1]at c;rw[c3out b1]at d;exact E.hr.inj k k' id v e l v' e' l' (p a).1 (p b).1 c d;obtain⟨z1,z2,z3,z4⟩:=w3.hr.zr id o hz;refine⟨z1,z2,fun k v e l a b=>?_,z4⟩;rcases N a with a|⟨a1,a⟩
 rw[c3in a]at b;exact z3 k v e l (J a) b;rw[c3out a1]at b;obtain⟨b1,b2,b3⟩:=p a;have x:=(E.hr.lt b1 b).2;rcases w5.zn id x (by rw[show C'.z id=some o from hz];simp)with X|X;cases hz1:C.z id with
 |none=>exact X hz1
 |some o1=>exact(E.hr.zr id o1 hz1).2.2.1 k v e l b1 b
 exact D b1 b2 b X;cases nw with
 |true=>
  simp only[qD2]at w4 ⊢;by_cases g:aL h2 k=none;rw[c3out g]at j;have:=E.dom k pl j;omega;rw[c3in g]at j;exact w3.dom k pl j
 |false=>
  simp only[qS2];by_cases g:aL h2 k=none;rw[c3out g]at j;exact E.dom k pl j;exact b7 (oO c2 g)
 cases nw with
 |true=>exact w4
 |false=>exact pQ2 _
 obtain⟨k,v,e,l,q1,q2,q3⟩:=B T;exact⟨k,v,e,l,q2,q3⟩;obtain⟨k,v,e,l,q1,q2⟩:=T;rcases N q1 with a|⟨a1,a⟩
 rw[c3in a]at q2;obtain⟨k,v,e,l,p1,p2,p3⟩:=B (w5.own id x ⟨k,v,e,l,J a,q2⟩);exact⟨k,v,e,l,p2,p3⟩;rw[c3out a1]at q2;exact⟨k,v,e,l,(p a).1,q2⟩;rw[k4 k];by_cases W:aL hs k=none
 have b4:¬zL k ns=true:=fun d3=>by
  rw[(u k).1,pW2 d3,f]at W;cases W
 have a0:aL T k=some o:=by rw[(u k).2,pT2 b4];exact f
 cases hc2:aL H k with
 |none=>rw[(k2 k).1 hc2]at a0;cases a0
 |some o'=>
  obtain⟨o0,q1,q2,q3,q4,_⟩:=M hc2;rw[f]at q1;cases q1;exact⟨o',by rw[q3];rfl,fun hb=>⟨by rw[<-q4];exact hb,c3out q3⟩⟩
 cases hc2:aL hs k with
 |none=>exact absurd hc2 W
 |some o0=>
  have b5:=G k o0 hc2;rw[f]at b5;cases b5;obtain⟨o',q1,q2⟩:=w5.kd k o hc2;have g:=d2 W;cases hc3:aL h2 k with
  |none=>exact absurd hc3 g
  |some o2=>
   have:=A k o2 hc3;rw[q1]at this;cases this;exact⟨o',rfl,fun hb=>⟨(q2 hb).1,by rw[c3in g,(q2 hb).2,rs W]⟩⟩
 rcases w5.zn id x hz with h1|h1;exact .inl h1;obtain⟨k,v,e,l,q1,q2,q3⟩:=B h1;exact .inr ⟨k,v,e,l,q2,q3⟩
def fxo:fP->fP
 |.lst ty e g rows=>.lst (ty+4294967296) e g rows
 |o=>o
def Bl:fP->Bool
 |.lst .. =>true
 |_=>false
theorem jW1 (ty:Nat):fM (ty+4294967296)=true:=by
 unfold fM;rw[Nat.ble_eq];omega
theorem aF1 {ty:Nat}:zD (ty+4294967296)=ty:=by
 unfold zD;rw[jW1,qD2];omega
theorem Vl {ty:Nat} (h:fM ty=false):zD ty=ty:=by
 unfold zD;rw[h,qS2]
theorem aG1 {ty:Nat} (h:fM ty=true):zD ty=ty-4294967296:=by
 unfold zD;rw[h,qD2]
theorem Nk {L:Nat->aB AO} {nS ty ty' e:Nat} {g:Bool} {rows:aA (aA PV)} {pl:Pl} (a:iH C L lim nS (.lst ty e g rows) pl) (b:zD ty'=zD ty):iH C L lim nS (.lst ty' e g rows) pl:=by
 cases pl with
 |nil=>exact a
 |atp id ver e' len=>
  obtain⟨a1,a2,a3,a4,els,a5,a6⟩:=a;exact⟨a1,a2,a3,a4,els,by rw[b];exact a5,a6⟩
theorem yG:∀{h:aQ} {K:aQ->aB R} {r:R},Kb h K=some r->∃h1,K h1=some r/\∀k,aL h1 k=(aL h k).map fxo/\∀ty e g rows,aL h k=some (.lst ty e g rows)->fM ty=false
 |[],K,r,hk=>⟨[],hk,fun k=>⟨rfl,fun _ _ _ _ h=>by simp[aL]at h⟩⟩
 |(j,o)::t,K,r,hk=>by
  unfold Kb at hk
  have other:Bl o=false->Kb t (fun r=>K ((j,o)::r))=some r->∃h1,K h1=some r/\∀k,aL h1 k=(aL ((j,o)::t) k).map fxo/\∀ty e g rows,aL ((j,o)::t) k=some (.lst ty e g rows)->fM ty=false:=by
   intro hl hk;obtain⟨h1,q1,q2⟩:=yG hk;refine⟨_,q1,fun k=>?_⟩;by_cases e:j=k;simp only[aL,pW2 e,qR2];refine⟨?_,fun _ _ _ _ h=>?_⟩;cases o<;>first|rfl|simp[Bl]at hl
   grind
   simp only[aL,pT2 e];exact q2 k
  cases o with
  |lst ty e g rows=>
   cases hfx:fM ty with
   |true=>simp only[hfx,qD2]at hk;exact aD hk
   |false=>
    simp only[hfx,qS2]at hk;obtain⟨h1,q1,q2⟩:=yG hk;refine⟨_,q1,fun k=>?_⟩;by_cases c:j=k;simp only[aL,pW2 c,qR2];exact⟨rfl,fun _ _ _ _ h=>by cases h;exact hfx⟩;simp only[aL,pT2 c];exact q2 k
  |box cs=>exact other rfl hk
  |mp es=>exact other rfl hk
  |fl fs=>exact other rfl hk
  |loop N e ps a b busy fin=>exact other rfl hk
  |lz ty e dp rows=>exact aD hk
def UnR (h:aQ) (k:Nat) (b c:fP):Prop:=∃a,aL h k=some a/\
 ((∃ty e g rows,b=.lst ty e g rows/\fM ty=true/\fM (ty-4294967296)=false/\c=.lst (ty-4294967296) e g rows)\/(c=b/\Bl a=false))
theorem Bm:∀{h h2:aQ} {K:aQ->aB R} {r:R},uL h h2 K=some r->∃c,K c=some r/\∀k,(aL c k=none↔aL h2 k=none)/\∀d,aL c k=some d->∃f,aL h2 k=some f/\UnR h k f d
 |h,[],K,r,hk=>⟨[],hk,fun k=>⟨Iff.rfl,fun _ h=>by simp[aL]at h⟩⟩
 |h,(j,o)::t,K,r,hk=>by
  unfold uL at hk
  rw[eG,pM2]at hk
  obtain⟨i,h0,hk⟩:=hk
  have step:∀d,UnR h j o d->uL h t (fun r=>K ((j,d)::r))=some r->∃c,K c=some r/\∀k,(aL c k=none↔aL ((j,o)::t) k=none)/\∀d,aL c k=some d->∃f,aL ((j,o)::t) k=some f/\UnR h k f d:=by
   intro d m hk;obtain⟨c,q1,q2⟩:=Bm hk;refine⟨_,q1,fun k=>?_⟩;by_cases e:j=k;subst e;simp only[aL,pW2];exact⟨by simp,fun n l=>⟨o,rfl,by cases l;exact m⟩⟩;simp only[aL,pT2 e];exact q2 k
  have no:Bl i=false->Bl o=false->uL h t (fun r=>K ((j,o)::r))=some r->∃c,K c=some r/\∀k,(aL c k=none↔aL ((j,o)::t) k=none)/\∀d,aL c k=some d->∃f,aL ((j,o)::t) k=some f/\UnR h k f d:=
   fun hl _ hk=>step o ⟨i,h0,.inr ⟨rfl,hl⟩⟩ hk
  cases i with
  |lst ty0 e0 g0 rows0=>
   cases o with
   |lst ty e g rows=>
    cases hfx:(fM ty&& !(fM (ty-4294967296)))with
    |false=>simp only[hfx,qS2]at hk;exact aD hk
    |true=>
     simp only[hfx,qD2]at hk;simp only[pN2,qH2]at hfx;exact step _ ⟨_,h0,.inl ⟨ty,e,g,rows,rfl,hfx.1,hfx.2,rfl⟩⟩ hk
   |_=>exact aD hk
  |box cs=>cases o with
   |lst ty e g rows=>exact aD hk
   |lz ty e dp rows=>exact aD hk
   |_=>exact no rfl rfl hk
  |mp es=>cases o with
   |lst ty e g rows=>exact aD hk
   |lz ty e dp rows=>exact aD hk
   |_=>exact no rfl rfl hk
  |fl fs=>cases o with
   |lst ty e g rows=>exact aD hk
   |lz ty e dp rows=>exact aD hk
   |_=>exact no rfl rfl hk
  |loop N e ps a b busy fin=>cases o with
   |lst ty e g rows=>exact aD hk
   |lz ty e dp rows=>exact aD hk
   |_=>exact no rfl rfl hk
  |lz ty0 e0 dp0 rows0=>cases o with
   |lst ty e g rows=>exact aD hk
   |lz ty e dp rows=>exact aD hk
   |_=>exact no rfl rfl hk
theorem Vm {fx:Bool} {P:AV->Hp->Prop} {run:aQ->Nat->(PV->aQ->Nat->aB (PV×aQ×Nat))->aB (PV×aQ×Nat)} {xs:aA PV} {ys:aA AV} {e:dY} {t:aA AV} {kill:aA Nat} {nw:Bool} {K:PV->dY->aQ->Nat->aB R} {r:R}
  (q:cG C n h lim s) (he:cV C e t) (N:LR (RV C) xs ys)
  (p:∀(hs:aQ) (C0:Cx) (m:Nat) (K':PV->aQ->Nat->aB (PV×aQ×Nat)) (r':PV×aQ×Nat),cG C0 m hs lim s->LR (RV C0) xs ys->run hs m K'=some r'->
   ∃v h' n' C' y s',K' v h' n'=some r'/\RV C' v y/\cG C' n' h' lim s'/\m<=n'/\Fr C0 hs s C' h' s'/\P y s')
  (hk:jG1 fx run nw xs e h n kill K=some r):
  ∃v e' h' n' C' y s',K v e' h' n'=some r/\RV C' v y/\(∀i w,dQ e' i=some w->∃z,t[i]? =some z/\RV C' w z/\i∉kill)/\cG C' n' h' lim s'/\n<=n'/\Fr C h s C' h' s'/\P y s':=by
 cases fx with
 |false=>exact Dd q he N p hk
 |true=>
  have hk:Kb h (fun h1=>inK run nw xs e h1 n kill fun v e h2 n=>uL h h2 fun u=>K v e u n)=some r:=hk;obtain⟨h1,hk,j⟩:=yG hk;have c:∀{k},aL h1 k≠none->aL h k≠none:=fun{k} hk A=>hk (by rw[(j k).1,A];rfl)
  have H:cG C n h1 lim s:=by
   refine⟨⟨fun k po hp=>?_,fun k k' i v1 F J v2 e2 L a1 a2 a3 a4=>q.hr.inj k k' i v1 F J v2 e2 L (c a1) (c a2) a3 a4,fun id o B=>?_⟩,q.dom,q.wf,q.lim⟩;rw[(j k).1]at hp;cases hh:aL h k with
   |none=>rw[hh]at hp;cases hp
   |some o=>
    rw[hh]at hp;cases hp;obtain⟨pl,p1,p2⟩:=q.hr.ob k o hh;refine⟨pl,p1,?_⟩;cases o with
    |lst ty e g rows=>exact Nk p2 (aF1.trans (Vl ((j k).2 _ _ _ _ hh)).symm)
    |_=>exact p2
   obtain⟨z1,z2,z3,z4⟩:=q.hr.zr id o B;exact⟨z1,z2,fun k v e l a b=>z3 k v e l (c a) b,z4⟩
  obtain⟨v,e',h',n',C',y,s',q1,q2,q3,q4,q5,q6,q7⟩:=Dd H he N p hk;obtain⟨u,W,E⟩:=Bm q1;have d:∀{k},aL u k≠none->aL h' k≠none:=fun{k} hk A=>hk ((E k).1.2 A);refine⟨v,e',u,n',C',y,s',W,q2,q3,⟨⟨fun k D G=>?_,fun k k' i v1 F J v2 e2 L a1 a2 a3 a4=>q4.hr.inj k k' i v1 F J v2 e2 L (d a1) (d a2) a3 a4,fun id o B=>?_⟩,q4.dom,q4.wf,q4.lim⟩,q5,⟨q6.sk,q6.n,fun id f A=>q6.keep id f (fun⟨k,v,e,l,b1,b2⟩=>A ⟨k,v,e,l,c b1,b2⟩),fun id f ⟨k,v,e,l,b1,b2⟩=>?_,fun k o x=>?_,q6.zl,fun id f B=>?_⟩,q7⟩;obtain⟨O,b1,U,b2,b3⟩:=(E k).2 D G;obtain⟨pl,p1,p2⟩:=q4.hr.ob k O b1;refine⟨pl,p1,?_⟩;rcases b3 with⟨ty,e,g,rows,rfl,c1,c2,rfl⟩|⟨rfl,_⟩
  exact Nk p2 ((Vl c2).trans (aG1 c1).symm);exact p2;obtain⟨z1,z2,z3,z4⟩:=q4.hr.zr id o B;exact⟨z1,z2,fun k v e l a b=>z3 k v e l (d a) b,z4⟩;obtain⟨k,v,e,l,S,T⟩:=q6.own id f ⟨k,v,e,l,d b1,b2⟩;exact⟨k,v,e,l,c S,T⟩;obtain⟨O,M,X⟩:=q6.kd k (fxo o) (by rw[(j k).1,x];rfl);cases hc:aL u k with
  |none=>rw[(E k).1.1 hc]at M;cases M
  |some D=>
   refine⟨D,rfl,fun hb=>?_⟩;obtain⟨V,b1,U,b2,b3⟩:=(E k).2 D hc;rw[M]at b1;cases b1;rw[x]at b2;cases b2;rcases b3 with⟨ty,e,g,rows,rfl,c1,c2,rfl⟩|⟨rfl,hl⟩
   rw[eM,c2]at hb;cases hb;obtain⟨Y,Z⟩:=X hb;refine⟨?_,Z⟩;cases o with
   |lst ty e g rows=>simp[Bl]at hl
   |_=>exact Y
  rcases q6.zn id f B with h1|⟨k,v,e,l,b1,b2⟩
  exact .inl h1;exact .inr ⟨k,v,e,l,c b1,b2⟩
end
end Go.P
