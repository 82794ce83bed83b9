import Derived.Test.YtlmhifhgadmigaaGreatLaB
/- A text of the proof. -/
set_option linter.all false
namespace Go.P
open Go.Sim (dQ CK Ex RV maxRoom)
inductive PV where
 |v (x:Value)
 |is (esz:Nat) (rows:List (List PV))
 |ip (cells:List PV)
 |im (es:List (PV×PV))
 |ref (k o:Nat)
 |own (k:Nat)
 |el (k i o:Nat)
 |map (k:Nat)
 |fn (f:FuncId) (first cap:List PV)
 |agg (cells:List PV)
 |tup (vs:List PV)
 |undef
 |yld (k:Nat)
 |zs (d e:Nat) (rows:List (List PV))
 |zm (es:List (PV×PV))
 deriving Inhabited
inductive PX where
 |t (i:Nat)
 |c (x:PV)
 deriving Inhabited
inductive fU where
 |nil
 |op (d:Nat) (k:dQ) (xs:List PX) (kill:List Nat) (bV:fU)
 |sto (k:dQ) (xs:List PX) (kill:List Nat) (bV:fU)
 |ifx (d c:Nat) (w:Bool) (body:fU) (x:PX) (kill:List Nat) (bV:fU)
 |ifn (d c:Nat) (w:Bool) (body:fU) (x:PX) (kill:List Nat) (bV:fU)
 |mkfl (d:Nat) (ty:TypeId) (zero:List Value) (xs:List PX) (kill:List Nat) (bV:fU)
 |lax (d:Nat) (es:List (Option Nat)) (bV:fU)
 |own (d:Nat) (ty:TypeId) (e:Nat) (g:Bool) (bV:fU)
 |ownc (d j:Nat) (ty:TypeId) (e:Nat) (g:Bool) (bV:fU)
 |laxc (d j e:Nat) (bV:fU)
 |fz (d:Nat) (j:Option Nat) (bV:fU)
 |laxm (d:Nat) (j:Option Nat) (bV:fU)
 deriving Inhabited
inductive PC where
 |skip
 |reg (ops:fU)
 |regD (dr:Nat) (ops:fU) (before:List Nat)
 |dead (c:Go.Sim.IC)
 |regX (dr:Nat) (ops:fU) (before:List Nat) (ex:List (Nat×Nat×Nat×Nat))
 |seq (a b:PC)
 |cond (c:PX) (a b:PC)
 |condJ (keep:List Nat) (c:PX) (a b:PC)
 |condL (c:PX) (a b:PC)
 |block (id:Nat) (c:PC)
 |loop (keep kx:List Nat) (c:PC)
 |loopU (m:Nat) (keep:List Nat) (c:PC)
 |rangeF (N:Nat) (keep:List Nat) (f:PX) (params:List Nat) (asn body:PC)
 |exit (id:Nat)
 |ret
 deriving Inhabited
abbrev dS:=aA (Nat×PV)
inductive fG where
 |box (cells:List PV)
 |lst (ty:TypeId) (esz:Nat) (g:Bool) (rows:List (List PV))
 |mp (es:List (PV×PV))
 |fl (fs:List PV)
 |lz (ty:TypeId) (esz dp:Nat) (rows:List (List PV))
 |loop (N:Nat) (e:dS) (params:List Nat) (asn body:PC) (busy:Bool) (fin:Option Ex)
abbrev aN:=aA (Nat×fG)
def fE (ty:Nat):Bool:=Nat.ble 4294967296 ty
def xU (ty:Nat):Nat:=bif fE ty then ty-4294967296 else ty
theorem Ri:∃f:{R:Type}->Bool->aB R->aB R->aB R,∀{R:Type} b (x y:aB R),f b x y=if b then x else y:=⟨fun b x y=>if b then x else y,fun _ _ _=>rfl⟩
noncomputable def Gu {R:Type} (b:Bool) (x y:aB R):aB R:=Classical.choose Ri b x y
theorem lT {R:Type} (b:Bool) (x y:aB R):Gu b x y=if b then x else y:=mI2 Ri b x y
theorem Er:∃f:{A R:Type}->aB A->(A->aB R)->aB R,∀{A R:Type} (x:aB A) (k:A->aB R),f x k=x.bind k:=⟨fun x k=>x.bind k,fun _ _=>rfl⟩
noncomputable def bS {A R:Type} (x:aB A) (k:A->aB R):aB R:=Classical.choose Er x k
theorem bL {A R:Type} (x:aB A) (k:A->aB R):bS x k=x.bind k:=mI2 Er x k
noncomputable section
variable {R:Type}
def Ie (x:Value) (K:Value->aB R):aB R:=
 match x with
 |.int k n=>K (.int k n)
 |.bool b=>K (.bool b)
 |.string s=>K (.string s)
 |x=>K x
def fPV (x:PV) (K:PV->aB R):aB R:=
 match x with
 |.v x=>Ie x fun x=>K (.v x)
 |.is e rows=>K (.is e rows)
 |.ip cs=>K (.ip cs)
 |.im es=>K (.im es)
 |.ref k o=>K (.ref k o)
 |.own k=>K (.own k)
 |.el k i o=>K (.el k i o)
 |.map k=>K (.map k)
 |.fn f a b=>K (.fn f a b)
 |.agg cs=>K (.agg cs)
 |.tup cs=>K (.tup cs)
 |.undef=>K .undef
 |.yld k=>K (.yld k)
 |.zs d e rows=>K (.zs d e rows)
 |.zm es=>K (.zm es)
def qH:aA PV->(aA PV->aB R)->aB R
 |[],K=>K []
 |x::xs,K=>fPV x fun x=>qH xs fun xs=>K (x::xs)
def fV (x:PV) (K:PV->aB R):aB R:=
 match x with
 |.v x=>Ie x fun x=>K (.v x)
 |.agg cs=>qH cs fun cs=>K (.agg cs)
 |.tup cs=>fT cs fun cs=>K (.tup cs)
 |.ip cs=>qH cs fun cs=>K (.ip cs)
 |.is e rows=>K (.is e rows)
 |.im es=>K (.im es)
 |.ref k o=>K (.ref k o)
 |.own k=>K (.own k)
 |.el k i o=>K (.el k i o)
 |.map k=>K (.map k)
 |.fn f a b=>qH a fun a=>qH b fun b=>K (.fn f a b)
 |.undef=>K .undef
 |.yld k=>K (.yld k)
 |.zs d e rows=>K (.zs d e rows)
 |.zm es=>K (.zm es)
 where
 fT:aA PV->(aA PV->aB R)->aB R
 |[],K=>K []
 |x::xs,K=>(match x with
   |.agg cs=>qH cs fun cs=>fT xs fun xs=>K (.agg cs::xs)
   |x=>fPV x fun x=>fT xs fun xs=>K (x::xs))
def mF:dS->Nat->(PV->aB R)->aB R
 |[],_,_=>none
 |(j,v)::r,i,K=>bif Nat.beq j i then K v else mF r i K
def yC:Nat->aA Nat->Bool
 |_,[]=>false
 |i,j::js=>bif Nat.beq i j then true else yC i js
def gE:dS->aA Nat->(dS->aB R)->aB R
 |[],_,K=>K []
 |(j,v)::r,is,K=>bif yC j is then gE r is K else gE r is fun r=>K ((j,v)::r)
def mX (e:dS):aA PX->(aA PV->aB R)->aB R
 |[],K=>K []
 |.t i::xs,K=>mF e i fun v=>mX e xs fun vs=>K (v::vs)
 |.c x::xs,K=>mX e xs fun vs=>K (x::vs)
def mY:Nat->aA PV->(aA PV->aB R)->aB R
 |0,_,K=>K []
 |_+1,[],_=>none
 |n+1,a::as,K=>mY n as fun l=>K (a::l)
def fM:Nat->aA PV->(aA PV->aB R)->aB R
 |0,l,K=>K l
 |_+1,[],_=>none
 |n+1,_::as,K=>fM n as K
def oX:aA PV->Nat->aA PV->(aA PV->aB R)->aB R
 |l,0,[],K=>K l
 |[],_,_,_=>none
 |_::as,0,c::cs,K=>oX as 0 cs fun l=>K (c::l)
 |a::as,n+1,cs,K=>oX as n cs fun l=>K (a::l)
def hK:aN->Nat->(fG->aB R)->aB R
 |[],_,_=>none
 |(j,v)::r,i,K=>bif Nat.beq j i then K v else hK r i K
def fO:aN->Nat->fG->(aN->aB R)->aB R
 |[],_,_,_=>none
 |(j,v)::r,i,o,K=>bif Nat.beq j i then K ((j,o)::r)else fO r i o fun r=>K ((j,v)::r)
def kO (x:PV) (K:aA PV->aB R):aB R:=
 match x with
 |.agg cs=>K cs
 |.tup _=>none
 |.undef=>none
 |x=>K [x]
def kEq (a b:IntKind):Bool:=
 match a,b with
 |.i8,.i8|.i16,.i16|.i32,.i32|.i64,.i64|.u8,.u8|.u16,.u16|.u32,.u32|.u64,.u64=>true
 |_,_=>false
def fP1 (op:BinOp) (x y:PV) (K:PV->aB R):aB R:=
 match x,y with
 |.v x,.v y=>
  match x,y with
  |.int k a,.int k' b=>
   match op with
   |.shl=>bS (if b<0 then none else some (k.wrap (a*2^min b.toNat k.bits))) fun r=>K (.v (.int k r))
   |.shr=>bS (if b<0 then none else some (a.fdiv (2^min b.toNat k.bits))) fun r=>K (.v (.int k r))
   |_=>bif kEq k k' then match op with
    |.add=>K (.v (.int k (k.wrap (a+b))))
    |.sub=>K (.v (.int k (k.wrap (a-b))))
    |.mul=>K (.v (.int k (k.wrap (a*b))))
    |.quo=>bS (if b=0 then none else some (k.wrap (a.tdiv b))) fun r=>K (.v (.int k r))
    |.rem=>bS (if b=0 then none else some (a.tmod b)) fun r=>K (.v (.int k r))
    |.and=>K (.v (.int k (k.wrap (BitVec.ofInt k.bits a&&&BitVec.ofInt k.bits b).toNat)))
    |.or=>K (.v (.int k (k.wrap (BitVec.ofInt k.bits a|||BitVec.ofInt k.bits b).toNat)))
    |.xor=>K (.v (.int k (k.wrap (BitVec.ofInt k.bits a^^^BitVec.ofInt k.bits b).toNat)))
    |.andNot=>K (.v (.int k (k.wrap (BitVec.ofInt k.bits a&&& ~~~ BitVec.ofInt k.bits b).toNat)))
    |.eql=>K (.v (.bool (a==b)))
    |.neq=>K (.v (.bool (a !=b)))
    |.lss=>K (.v (.bool (decide (a<b))))
    |.leq=>K (.v (.bool (decide (a<=b))))
    |.gtr=>K (.v (.bool (decide (a>b))))
    |.geq=>K (.v (.bool (decide (a>=b))))
    |_=>none
   else none
  |.string a,.string b=>
   match op with
   |.add=>bS (if a.size+b.size<=2^62 then some (a++b)else none) fun r=>K (.v (.string r))
   |.eql=>K (.v (.bool (a.toList==b.toList)))
   |.neq=>K (.v (.bool !(a.toList==b.toList)))
   |.lss=>K (.v (.bool (Op.bytesLess a.toList b.toList)))
   |.leq=>K (.v (.bool (Op.bytesLess a.toList b.toList||a.toList==b.toList)))
   |.gtr=>K (.v (.bool !(Op.bytesLess a.toList b.toList||a.toList==b.toList)))
   |.geq=>K (.v (.bool !(Op.bytesLess a.toList b.toList)))
   |_=>none
  |_,_=>none
 |_,_=>none
def Wn:aA CK->aA PV->aA PV->(Bool->aB R)->aB R
 |[],[],[],K=>K true
 |k::ks,a::as,b::bs,K=>Wn ks as bs fun r=>match k,a,b with
  |.i,.v (.int j x),.v (.int j' y)=>bif kEq j j' then K ((x==y)&&r)else none
  |.b,.v (.bool x),.v (.bool y)=>K ((x==y)&&r)
  |.s,.v (.string x),.v (.string y)=>K ((x==y)&&r)
  |_,_,_=>none
 |_,_,_,_=>none
def rW (rows:aA (aA PV)) (i:Int):aB (aA PV):=if 0<=i then rows[i.toNat]? else none
def qI (n:Nat) (i:Int):aB Nat:=if 0<=i/\i<n then some i.toNat else none
def kY (rows:aA (aA PV)) (l h:Int):aB (aA (aA PV)):=
 if 0<=l/\l<=h/\h<=rows.length then some ((rows.drop l.toNat).take (h.toNat-l.toNat))else none
def mZ (s:ByteArray) (i:Int):aB Int:=if 0<=i then(s.data.toList[i.toNat]?).map fun b=>(b.toNat:Int)else none
def wA (rows:aA (aA PV)) (i o:Nat) (cs:aA PV):aB (aA (aA PV)):=
 match rows[i]? with
 |some row=>if o+cs.length<=row.length then some (rows.set i (Sim.setL row o cs))else none
 |none=>none
def wB (rows:aA (aA PV)) (i o:Nat):aB PV:=(rows[i]?).bind fun row=>row[o]?
def qJ (rows:aA (aA PV)) (i o n:Nat):aB (aA PV):=(rows[i]?).bind fun row=>if o+n<=row.length then some ((row.drop o).take n)else none
def qK (cs:aA PV) (i:Int) (len esz:Nat):aB PV:=if 0<=i/\i<len then cs[i.toNat*esz]? else none
def nA (cs:aA PV) (i:Int) (len esz:Nat):aB (aA PV):=if 0<=i/\i<len/\(i.toNat+1)*esz<=cs.length then some ((cs.drop (i.toNat*esz)).take esz)else none
def byteRows (s:ByteArray):aA (aA PV):=s.data.toList.map fun b=>[.v (.int .u8 b.toNat)]
def appRows (g:Bool) (rows new:aA (aA PV)):aB (aA (aA PV)):=
 if rows.length+new.length<=maxRoom/\(g=true->new.length<=1)then some (rows++new)else none
def nR (rows:aA (aA PV)) (h:Int):aB (aA (aA PV)):=if 0<=h/\h<=rows.length then some (rows.take h.toNat)else none
def nB (l c:Int) (zero:aA PV):aB (aA (aA PV)):=if 0<=l/\l<=c/\c<=maxRoom then some (List.replicate l.toNat zero)else none
def nT:CK->PV->PV->aB Bool
 |.i,.v (.int k a),.v (.int k' b)=>if k=k' then some (a==b)else none
 |.b,.v (.bool a),.v (.bool b)=>some (a==b)
 |.s,.v (.string a),.v (.string b)=>some (a==b)
 |_,_,_=>none
def iJ:aA CK->aA PV->aA PV->aB Bool
 |[],[],[]=>some true
 |k::ks,a::as,b::bs=>match nT k a b with
  |some true=>iJ ks as bs
  |some false=>some false
  |none=>none
 |_,_,_=>none
def oY (agg:Bool) (ks:aA CK) (a b:PV):aB Bool:=
 if agg then match a,b with
  |.agg as,.agg bs=>if as.length=ks.length/\bs.length=ks.length then iJ ks as bs else none
  |_,_=>none
 else iJ ks [a] [b]
def qL (agg:Bool) (ks:aA CK) (k:PV):aA (PV×PV)->Nat->aB (aB (Nat×PV))
 |[],_=>some none
 |(k',x)::r,i=>match oY agg ks k k' with
  |some true=>some (some (i,x))
  |some false=>qL agg ks k r (i+1)
  |none=>none
def rX (agg:Bool) (ks:aA CK):PV->Bool
 |.agg as=>agg&&as.length==ks.length
 |.v _=> !agg
 |_=>false
def oZ (agg:Bool) (ks:aA CK) (zero k:PV) (es:aA (PV×PV)):aB PV:=
 if rX agg ks k then(qL agg ks k es 0).map fun r=>match r with|some (_,x)=>x|none=>zero else none
def lU (agg:Bool) (ks:aA CK) (zero k:PV) (es:aA (PV×PV)):aB (PV×Bool):=
 if rX agg ks k then(qL agg ks k es 0).map fun r=>match r with|some (_,x)=>(x,true)|none=>(zero,false)else none
def wC (agg:Bool) (ks:aA CK) (k x:PV) (es:aA (PV×PV)):aB (aA (PV×PV)):=
 if rX agg ks k then(qL agg ks k es 0).map fun r=>match r with|some (i,_)=>es.set i (k,x)|none=>es++[(k,x)]else none
def cR:Nat->PV->Bool
 |0,_=>false
 |d+1,x=>match x with
  |.v _|.is _ _|.ip _|.im _=>true
  |.fn _ a b=>a.all (cR d)&&b.all (cR d)
  |.agg cs=>cs.all (cR d)
  |.tup cs=>cs.all (cR d)
  |_=>false
def eF:PV->Bool
 |.v _|.is _ _|.ip _=>true
 |_=>false
def Ig:PV->Bool
 |.agg cs=>cs.all eF
 |x=>eF x
def rY:Nat->PV->Bool
 |0,_=>false
 |d+1,x=>match x with
  |.v _=>true
  |.agg cs=>cs.all (rY d)
  |.tup cs=>cs.all (rY d)
  |_=>false
def oF (f:PV->(PV->aB R)->aB R):aA PV->(aA PV->aB R)->aB R
 |[],K=>K []
 |x::xs,K=>f x fun x=>oF f xs fun xs=>K (x::xs)
def Az (h:aN):Nat->PV->(PV->aB R)->aB R
 |0,_,_=>none
 |d+1,x,K=>match x with
  |.own k=>hK h k fun ob=>match ob with
   |.lst _ e _ rows=>K (.is e rows)
   |.lz _ e dp rows=>bif Nat.ble dp 4 then K (.is e rows)else none
   |_=>none
  |.zs dp e rows=>bif Nat.ble dp 5 then K (.is e rows)else none
  |.map k=>hK h k fun ob=>match ob with
   |.mp es=>K (.im es)
   |_=>none
  |.ref k o=>hK h k fun ob=>match ob with
   |.box cs=>fM o cs fun cs=>oF (Az h d) cs fun cs=>K (.ip cs)
   |_=>none
  |.fn f a b=>oF (Az h d) a fun a=>oF (Az h d) b fun b=>K (.fn f a b)
  |.agg cs=>oF (Az h d) cs fun cs=>K (.agg cs)
  |.v x=>K (.v x)
  |.is e rows=>K (.is e rows)
  |.ip cs=>K (.ip cs)
  |.im es=>K (.im es)
  |_=>none
def cU (k:Nat):Nat->PV->(PV->aB R)->aB R
 |0,_,K=>K .undef
 |d+1,x,K=>match x with
  |.own j=>bif Nat.beq j k then K .undef else K (.own j)
  |.el j i o=>bif Nat.beq j k then K .undef else K (.el j i o)
  |.ref j o=>bif Nat.beq j k then K .undef else K (.ref j o)
  |.map j=>bif Nat.beq j k then K .undef else K (.map j)
  |.yld j=>bif Nat.beq j k then K .undef else K (.yld j)
  |.fn f a b=>kills d a fun a=>kills d b fun b=>K (.fn f a b)
  |.agg cs=>kills d cs fun cs=>K (.agg cs)
  |.tup cs=>kills d cs fun cs=>K (.tup cs)
  |x=>K x
 where
 kills (d:Nat):aA PV->(aA PV->aB R)->aB R
 |[],K=>K []
 |x::xs,K=>cU k d x fun x=>kills d xs fun xs=>K (x::xs)
def mC (k:Nat):dS->(dS->aB R)->aB R
 |[],K=>K []
 |(j,v)::r,K=>cU k 3 v fun v=>mC k r fun r=>K ((j,v)::r)
def iK (k:Nat):aN->(aN->aB R)->aB R
 |[],K=>K []
 |(j,o)::r,K=>match o with
  |.box cs=>cU.kills k 2 cs fun cs=>iK k r fun r=>K ((j,.box cs)::r)
  |.lst ty e g rows=>iK k r fun r=>K ((j,.lst ty e g rows)::r)
  |.mp es=>iK k r fun r=>K ((j,.mp es)::r)
  |.lz ty e dp rows=>iK k r fun r=>K ((j,.lz ty e dp rows)::r)
  |.fl fs=>cU.kills k 2 fs fun fs=>iK k r fun r=>K ((j,.fl fs)::r)
  |.loop N e ps a b busy fin=>mC k e fun e=>iK k r fun r=>K ((j,.loop N e ps a b busy fin)::r)
def Rj (h:aN) (e:Nat) (x:PV) (K:aA (aA PV)->aB R):aB R:=
 match x with
 |.is e' rows=>bif Nat.beq e' e then K rows else none
 |.own k=>hK h k fun ob=>match ob with
  |.lst _ e' _ rows=>bif Nat.beq e' e then K rows else none
  |_=>none
 |.v (.slice none 0 0)=>K []
 |_=>none
def uE (lo hi:Bool) (len:Nat) (a:aA PV) (K:Int->Int->aB R):aB R:=
 match lo,hi,a with
 |false,false,[]=>K 0 len
 |true,false,[.v (.int _ l)]=>K l len
 |false,true,[.v (.int _ h)]=>K 0 h
 |true,true,[.v (.int _ l),.v (.int _ h)]=>K l h
 |_,_,_=>none
def Es:aA PV->aA (Nat×Nat)->aA PV->(aA PV->aB R)->aB R
 |cells,[],[],K=>K cells
 |cells,(off,n)::ps,x::xs,K=>kO x fun cs=>bif Nat.beq cs.length n then oX cells off cs fun cells=>Es cells ps xs K else none
 |_,_,_,_=>none
def qM (e:Nat):aA PV->(aA (aA PV)->aB R)->aB R
 |[],K=>K []
 |x::xs,K=>kO x fun cs=>bif Nat.beq cs.length e&&cs.all eF then qM e xs fun r=>K (cs::r)else none
def Rk:PV->aB (Nat×PV)
 |.zs d e rows=>some (d,.is e rows)
 |x=>bif eF x then some (0,x)else none
def wD:aA PV->aB (Nat×aA PV)
 |[]=>some (0,[])
 |x::xs=>match Rk x,wD xs with
  |some (d,y),some (d',ys)=>some (bif Nat.blt d d' then d' else d,y::ys)
  |_,_=>none
def fD (d:Nat) (K:Nat->aB R):aB R:=match d with
 |0=>K 0
 |1=>K 1
 |2=>K 2
 |3=>K 3
 |4=>K 4
 |d=>K d
def wE (e:Nat):aA PV->(Nat->aA (aA PV)->aB R)->aB R
 |[],K=>K 0 []
 |x::xs,K=>kO x fun cs=>match wD cs with
  |some (d,ys)=>bif Nat.beq ys.length e then wE e xs fun a r=>fD (bif Nat.blt d a then a else d) fun m=>K m (ys::r)else none
  |none=>none
def Rl:PV->Bool
 |.agg cs=>cs.all eF
 |x=>eF x
def My:Nat->aA Nat->Bool
 |_,[]=>true
 |i,j::js=>bif Nat.beq i j then My (i+1) js else false
def mnK (mx:Bool) (k:IntKind):Int->aA PV->(Int->aB R)->aB R
 |a,[],K=>K a
 |a,.v (.int k' b)::r,K=>bif kEq k k' then mnK mx k (bif mx then(if b>a then b else a)else(if b<a then b else a)) r K else none
 |_,_,_=>none
def Wo (i:Int) (K:Nat->aB R):aB R:=
 match i with
 |.ofNat i=>K i
 |_=>none
def Et (i:Int):Nat->(Nat->aB R)->aB R
 |0,_=>none
 |m+1,K=>Gu (i==(m:Int)) (K m) (Et i m K)
def cM (k:dQ) (xs:aA PV) (h:aN) (n:Nat) (K:PV->aN->Nat->aB R):aB R:=
 match k,xs with
 |.mov,[x]=>K x h n
 |.nilc,[x]=>match x with
  |.ref .. |.ip .. |.el .. |.fn .. |.yld .. =>K x h n
  |_=>none
 |.box _ size,[x]=>kO x fun cs=>bif Nat.beq cs.length size then(bif Nat.beq size 0 then none else K (.ref n 0) ((n,.box cs)::h) (n+1))else none
 |.alloc _ zero,[]=>qH (zero.map .v) fun cs=>K (.ref n 0) ((n,.box cs)::h) (n+1)
 |.build zero parts,xs=>qH (zero.map .v) fun cs=>Es cs parts xs fun cs=>K (.agg cs) h n
 |.buildSl ty e len zero parts,xs=>bif My 0 parts&&(Nat.beq zero.length e&& !(fE ty))then(bif Nat.beq parts.length len then bif xs.all Rl then qM e xs fun rows=>bif Nat.beq rows.length len then K (.own n) ((n,.lst ty e false rows)::h) (n+1)else none else wE e xs fun dp rows=>bif Nat.beq rows.length len then K (.own n) ((n,.lz ty e dp rows)::h) (n+1)else none else none)else none
 |.loadS,[p]=>match p with
  |.ref k o=>hK h k fun ob=>match ob with
   |.box cs=>fM o cs fun cs=>match cs with
    |c::_=>K c h n
    |[]=>none
   |_=>none
  |.ip cs=>match cs with
   |c::_=>K c h n
   |[]=>none
  |.el k i o=>hK h k fun ob=>match ob with
   |.lst _ _ _ rows=>bS (wB rows i o) fun c=>K c h n
   |.fl fs=>bif Nat.beq o 0 then(fM i fs fun fs=>match fs with
    |f::_=>K f h n
    |[]=>none)else none
   |_=>none
  |_=>none
 |.loadA m,[p]=>match p with
  |.ref k o=>hK h k fun ob=>match ob with
   |.box cs=>fM o cs fun cs=>mY m cs fun cs=>K (.agg cs) h n
   |_=>none
  |.ip cs=>mY m cs fun cs=>K (.agg cs) h n
  |.el k i o=>hK h k fun ob=>match ob with
   |.lst _ _ _ rows=>bS (qJ rows i o m) fun cs=>K (.agg cs) h n
   |_=>none
  |_=>none
 |.store m,[p,x]=>match p with
  |.ref k o=>hK h k fun ob=>match ob with
   |.box cs=>kO x fun ys=>bif Nat.beq ys.length m then oX cs o ys fun cs=>fO h k (.box cs) fun h=>K .undef h n else none
   |_=>none
  |.el k i o=>hK h k fun ob=>match ob with
   |.lst ty e g rows=>kO x fun ys=>bif Nat.beq ys.length m&&ys.all eF then bS (wA rows i o ys) fun rows=>fO h k (.lst ty e g rows) fun h=>K .undef h n else none
   |_=>none
  |_=>none
 |.fad off,[p]=>match p with
  |.ref k o=>K (.ref k (o+off)) h n
  |.ip cs=>fM off cs fun cs=>K (.ip cs) h n
  |.el k i o=>K (.el k i (o+off)) h n
  |_=>none
 |.iad e,[x,i]=>match i with
  |.v (.int _ i)=>match x with
   |.is e' rows=>bif Nat.beq e' e then bS (rW rows i) fun row=>K (.ip row) h n else none
   |.own k=>hK h k fun ob=>match ob with
    |.lst _ e' _ rows=>bif Nat.beq e' e then bS (qI rows.length i) fun i=>K (.el k i 0) h n else none
    |.fl fs=>bif Nat.beq e 1 then Wo i (fun i=>bif Nat.blt i fs.length then K (.el k i 0) h n else none)else none
    |_=>none
   |_=>none
  |_=>none
 |.iadA len esz,[p,i]=>match i with
  |.v (.int _ i)=>match p with
   |.ref k o=>Et i len fun j=>K (.ref k (o+j*esz)) h n
   |_=>none
  |_=>none
 |.idxStr,[x,i]=>match x,i with
  |.v (.string s),.v (.int _ i)=>bS (mZ s i) fun b=>K (.v (.int .u8 b)) h n
  |_,_=>none
 |.idxA len e agg,[x,i]=>match x,i with
  |.agg cs,.v (.int _ i)=>bif agg then bS (nA cs i len e) fun cs=>K (.agg cs) h n else bS (qK cs i len e) fun c=>K c h n
  |_,_=>none
 |.bin op,[x,y]=>fP1 op x y fun v=>K v h n
 |.eqB neg,[x,y]=>match x,y with
  |.v (.bool a),.v (.bool b)=>K (.v (.bool ((a==b)!=neg))) h n
  |_,_=>none
 |.eqA neg ks,[x,y]=>match x,y with
  |.agg as,.agg bs=>Wn ks as bs fun r=>K (.v (.bool (r !=neg))) h n
  |_,_=>none
 |.un op,[x]=>match op,x with
  |.not,.v (.bool b)=>K (.v (.bool !b)) h n
  |.neg,.v (.int k m)=>K (.v (.int k (k.wrap (0-m)))) h n
  |.xor,.v (.int k m)=>K (.v (.int k (k.wrap (BitVec.ofInt k.bits (if k.signed then -1 else k.max)^^^BitVec.ofInt k.bits m).toNat))) h n
  |_,_=>none
 |.convI k,[x]=>match x with
  |.v (.int _ m)=>K (.v (.int k (k.wrap m))) h n
  |_=>none
 |.s2b _,[x]=>match x with
  |.v (.string s)=>K (.is 1 (byteRows s)) h n
  |_=>none
 |.mkfn f m,xs=>match f with
  |.func f=>mY m xs fun a=>fM m xs fun b=>K (.fn f a b) h n
  |_=>none
 |.mkmap,[]=>K (.map n) ((n,.mp [])::h) (n+1)
 |.mksl ty e _ zero,[l,c]=>match l,c with
  |.v (.int _ l),.v (.int _ c)=>bif fE ty then none else qH (zero.map .v) fun z=>bS (nB l c z) fun rows=>K (.own n) ((n,.lst ty e true rows)::h) (n+1)
  |_,_=>none
 |.slc e lo hi mx,x::bs=>bif mx then none else match x with
  |.is e' rows=>bif Nat.beq e' e then uE lo hi rows.length bs fun l r=>bS (kY rows l r) fun rows=>K (.is e rows) h n else none
  |_=>none
 |.lookup agg ks zero ok,[m,k]=>
  match zero with
  |.v z=>match m with
   |.im es=>bif cR 2 k then(bif ok then bS (lU agg ks (.v z) k es) fun r=>K (.tup [r.1,.v (.bool r.2)]) h n else bS (oZ agg ks (.v z) k es) fun r=>K r h n)else none
   |.zm es=>bif cR 2 k then(bif ok then bS (lU agg ks (.v z) k es) fun r=>K (.tup [r.1,.v (.bool r.2)]) h n else bS (oZ agg ks (.v z) k es) fun r=>K r h n)else none
   |.map j=>hK h j fun ob=>match ob with
    |.mp es=>bif cR 2 k then(bif ok then bS (lU agg ks (.v z) k es) fun r=>K (.tup [r.1,.v (.bool r.2)]) h n else bS (oZ agg ks (.v z) k es) fun r=>K r h n)else none
    |_=>none
   |_=>none
  |_=>none
 |.mapup agg ks,[m,k,x]=>match m with
  |.map j=>hK h j fun ob=>match ob with
   |.mp es=>bif Ig k&&Ig x then bS (wC agg ks k x es) fun es=>fO h j (.mp es) fun h=>K .undef h n else none
   |_=>none
  |_=>none
 |.len kd,[x]=>match x with
  |.is _ rows=>bif Nat.beq kd 0 then bS (some rows.length) fun m=>K (.v (.int .i64 m)) h n else none
  |.own k=>bif Nat.beq kd 0 then hK h k fun ob=>match ob with
   |.lst _ _ _ rows=>bS (some rows.length) fun m=>K (.v (.int .i64 m)) h n
   |.lz _ _ _ rows=>bS (some rows.length) fun m=>K (.v (.int .i64 m)) h n
   |.fl fs=>K (.v (.int .i64 fs.length)) h n
   |_=>none else none
  |.zs _ _ rows=>bif Nat.beq kd 0 then bS (some rows.length) fun m=>K (.v (.int .i64 m)) h n else none
  |.v (.slice none 0 0)=>bif Nat.beq kd 0 then K (.v (.int .i64 0)) h n else none
  |.v (.string s)=>bif Nat.beq kd 1 then K (.v (.int .i64 s.size)) h n else none
  |_=>none
 |.mn,x::xs=>match x with
  |.v (.int k a)=>mnK false k a xs fun r=>K (.v (.int k r)) h n
  |_=>none
 |.mx,x::xs=>match x with
  |.v (.int k a)=>mnK true k a xs fun r=>K (.v (.int k r)) h n
  |_=>none
 |.ext i,[x]=>match x with
  |.tup vs=>fM i vs fun vs=>match vs with
   |v::_=>K v h n
   |[]=>none
  |_=>none
 |_,_=>none
structure NX where
 is:FuncId->Bool
 nw:FuncId->Bool
 run:{R:Type}->FuncId->List PV->aN->Nat->(PV->aN->Nat->Option R)->Option R
 yld:{R:Type}->Nat->List PV->aN->Nat->(PV->aN->Nat->Option R)->Option R
abbrev qN:=FuncId->aA PV->aB PV
def uF (h:aN):aA PV->(aA PV->aB R)->aB R
 |[],K=>K []
 |x::xs,K=>Az h 5 x fun x=>uF h xs fun xs=>K (x::xs)
def tK (C:qN) (f:FuncId) (xs:aA PV) (h:aN) (K:PV->aB R):aB R:=
 bif xs.all (cR 4)then bS (C f xs) fun v=>fV v K
 else uF h xs fun xs=>bS (C f xs) fun v=>fV v fun v=>bif rY 4 v then K v else none
def Kj (h:aN) (es dp:Nat) (x:PV) (K:aA (aA PV)->aB R):aB R:=
 match x with
 |.is e' rows=>bif Nat.beq e' es then K rows else none
 |.own k=>hK h k fun ob=>match ob with
  |.lst _ e' _ rows=>bif Nat.beq e' es then K rows else none
  |.lz _ e' dp' rows=>bif Nat.beq e' es&&Nat.ble dp' dp then K rows else none
  |_=>none
 |.zs d e' rows=>bif Nat.beq e' es&&Nat.ble d (dp+1)then K rows else none
 |.v (.slice none 0 0)=>K []
 |_=>none
def fR1 (e:dS) (h:aN) (d ty es:Nat) (kill:aA Nat) (s x:PV) (K:dS->aN->aB R):aB R:=
 match s with
 |.own k=>hK h k fun ob=>match ob with
  |.lst ty' es' g rows=>Rj h es x fun new=>bif Nat.beq es' es&&(Nat.beq ty' ty&& !(fE ty'))then bS (appRows g rows new) fun rows=>
    gE e (d::kill) fun e=>mC k e fun e=>iK k h fun h=>fO h k (.lst ty' es' g rows) fun h=>K ((d,.own k)::e) h
   else none
  |.lz ty' es' dp rows=>Kj h es dp x fun new=>bif Nat.beq es' es&&(Nat.beq ty' ty&& !(fE ty'))then bS (appRows false rows new) fun rows=>
    gE e (d::kill) fun e=>mC k e fun e=>iK k h fun h=>fO h k (.lz ty' es' dp rows) fun h=>K ((d,.own k)::e) h
   else none
  |_=>none
 |_=>none
def nC (f:PV->aA Nat->(aA Nat->aB R)->aB R):aA PV->aA Nat->(aA Nat->aB R)->aB R
 |[],a,K=>K a
 |x::xs,a,K=>f x a fun a=>nC f xs a K
def Kk (f:PV->aA Nat->(aA Nat->aB R)->aB R):dS->aA Nat->(aA Nat->aB R)->aB R
 |[],a,K=>K a
 |(_,x)::xs,a,K=>f x a fun a=>Kk f xs a K
def iN:Nat->PV->aA Nat->(aA Nat->aB R)->aB R
 |0,_,_,_=>none
 |d+1,x,a,K=>match x with
  |.ref k _=>K (k::a)
  |.own k=>K (k::a)
  |.el k _ _=>K (k::a)
  |.map k=>K (k::a)
  |.yld k=>K (k::a)
  |.fn _ p q=>nC (iN d) p a fun a=>nC (iN d) q a K
  |.agg cs=>nC (iN d) cs a K
  |.tup cs=>nC (iN d) cs a K
  |_=>K a
def jO (h:aN):Nat->aA Nat->aA Nat->(aA Nat->aB R)->aB R
 |0,_,_,_=>none
 |_+1,[],a,K=>K a
 |n+1,k::b,a,K=>bif yC k a then jO h n b a K else hK h k fun ob=>match ob with
  |.box cs=>nC (iN 4) cs b fun b=>jO h n b (k::a) K
  |.fl cs=>nC (iN 4) cs b fun b=>jO h n b (k::a) K
  |.loop _ e _ _ _ _ _=>Kk (iN 4) e b fun b=>jO h n b (k::a) K
  |_=>jO h n b (k::a) K
def Eu:aN->aA Nat->(aN->aN->aB R)->aB R
 |[],_,K=>K [] []
 |(k,o)::r,ns,K=>Eu r ns fun a b=>bif yC k ns then K ((k,o)::a) b else K a ((k,o)::b)
def fX:aN->Nat->Bool
 |[],_=>false
 |(j,_)::r,k=>bif Nat.beq j k then true else fX r k
def jP (p:Nat->Bool):Nat->PV->Bool
 |0,_=>false
 |d+1,x=>match x with
  |.ref k _|.own k|.el k _ _|.map k|.yld k=>p k
  |.fn _ a b=>a.all (jP p d)&&b.all (jP p d)
  |.agg cs=>cs.all (jP p d)
  |.tup cs=>cs.all (jP p d)
  |_=>true
def Ba (p:Nat->Bool):fG->Bool
 |.box cs=>cs.all (jP p 4)
 |.fl cs=>cs.all (jP p 4)
 |.loop _ e _ _ _ _ _=>e.all fun q=>jP p 4 q.2
 |_=>true
def gY (p:Nat->Bool):aN->Bool
 |[]=>true
 |(_,o)::r=>Ba p o&&gY p r
def lV:aN->dS->aN->(dS->aN->aB R)->aB R
 |[],e,h,K=>K e h
 |(k,o)::r,e,h,K=>match o with
  |.lst ty .. =>bif fE ty then lV r e h K else mC k e fun e=>iK k h fun h=>lV r e h K
  |.lz .. =>mC k e fun e=>iK k h fun h=>lV r e h K
  |_=>lV r e h K
def wF:aN->aN->(aN->aB R)->aB R
 |[],b,K=>K b
 |(k,o)::r,b,K=>wF r b fun r=>K ((k,o)::r)
def pA:aN->aA Nat
 |[]=>[]
 |(k,_)::r=>k::pA r
def Mz (hs:aN) (n:Nat):aN->Bool
 |[]=>true
 |(k,_)::r=>bif fX hs k||Nat.ble n k then Mz hs n r else false
def Na (a:aN):aA Nat->Bool
 |[]=>true
 |k::r=>bif fX a k then Na a r else false
def Nb (hs:aN):aN->Bool
 |[]=>true
 |(k,_)::r=>bif fX hs k then Nb hs r else false
def Vp:aN->Nat->Nat
 |[],m=>m
 |(k,_)::r,m=>bif Nat.blt k m then Vp r m else Vp r (k+1)
def yD (hs:aN) (nw:Bool) (n:Nat) (v:PV) (h':aN) (n':Nat):aB (PV×aN×Nat):=
 nC (iN 5) [v] (pA hs) fun a=>jO h' 60 a [] fun b=>Eu h' b fun h2 _=>
  bif Na h2 (pA hs)&&(bif nw then Mz hs n h2 else Nb hs h2)&&(jP (fX h2) 5 v&&gY (fX h2) h2)then some (v,h2,bif nw then n' else 0)else none
def inK (run:aN->Nat->(PV->aN->Nat->aB (PV×aN×Nat))->aB (PV×aN×Nat)) (nw:Bool) (xs:aA PV) (e:dS) (h:aN) (n:Nat) (kill:aA Nat) (K:PV->dS->aN->Nat->aB R):aB R:=
 nC (iN 5) xs [] fun a=>jO h 60 a [] fun c=>Eu h c fun hs b=>
  bif xs.all (jP (fX hs) 5)&&gY (fX hs) hs then
   bS (run hs (bif nw then n else Vp hs 0) (yD hs nw (bif nw then n else Vp hs 0))) fun r=>
    fV r.1 fun v=>wF r.2.1 [] fun h2=>gE e kill fun e=>lV h2 e b fun e b=>wF h2 b fun h=>K v e h (bif nw then r.2.2 else n)
  else none
def Ih:aN->(aN->aB R)->aB R
 |[],K=>K []
 |(k,o)::r,K=>match o with
  |.lst ty e g rows=>bif fE ty then none else Ih r fun r=>K ((k,.lst (ty+4294967296) e g rows)::r)
  |.lz .. =>none
  |o=>Ih r fun r=>K ((k,o)::r)
def tL:aN->aN->(aN->aB R)->aB R
 |_,[],K=>K []
 |h,(k,o)::r,K=>hK h k fun a=>match a with
  |.lst .. =>match o with
   |.lst ty e g rows=>bif fE ty&& !(fE (ty-4294967296))then tL h r fun r=>K ((k,.lst (ty-4294967296) e g rows)::r)else none
   |_=>none
  |_=>match o with
   |.lst .. =>none
   |.lz .. =>none
   |o=>tL h r fun r=>K ((k,o)::r)
def fS1 (fx:Bool) (run:aN->Nat->(PV->aN->Nat->aB (PV×aN×Nat))->aB (PV×aN×Nat)) (nw:Bool) (xs:aA PV) (e:dS) (h:aN) (n:Nat) (kill:aA Nat) (K:PV->dS->aN->Nat->aB R):aB R:=
 bif fx then Ih h fun h1=>inK run nw xs e h1 n kill fun v e h2 n=>tL h h2 fun a=>K v e a n
 else inK run nw xs e h n kill K
def Ii (e:dS) (h:aN) (d es:Nat) (kill:aA Nat) (k:Nat) (hi:Int) (K:dS->aN->aB R):aB R:=
 hK h k fun ob=>match ob with
 |.lst ty es' _ rows=>bif Nat.beq es' es&& !(fE ty)then bS (nR rows hi) fun rows=>
   gE e (d::kill) fun e=>mC k e fun e=>iK k h fun h=>fO h k (.lst ty es' true rows) fun h=>K ((d,.own k)::e) h
  else none
 |_=>none
def opK (C:qN) (X:NX) (k:dQ) (as:aA PV) (h:aN) (n:Nat) (K:PV->aN->Nat->aB R):aB R:=
 match k,as with
 |.callF f,as=>bif X.is f then none else tK C f as h fun v=>K v h n
 |.callV,.fn f first cap::as=>bif X.is f then none else tK C f (first++as++cap) h fun v=>K v h n
 |k,as=>cM k as h n K
def Nc:aA (aB Nat)->aA PV->(aA PV->aB R)->aB R
 |[],[],K=>K []
 |o::os,x::xs,K=>Nc os xs fun xs=>match o with
  |none=>K (x::xs)
  |some e=>match x with
   |.v (.slice none 0 0)=>K (.is e []::xs)
   |_=>none
 |_,_,_=>none
def kZ (ty e:Nat) (g:Bool):fG:=bif Nat.ble 4294967296 e then .lz ty (e%4294967296) (e/4294967296) []else .lst ty e g []
def Kl:Bool->fG->aB PV
 |false,.lst ty e _ rows=>bif fE ty then none else some (.zs 1 e rows)
 |false,.lz _ e dp rows=>some (.zs (dp+1) e rows)
 |true,.mp es=>some (.zm es)
 |_,_=>none
def Ev:aN->Nat->(aN->aB R)->aB R
 |[],_,K=>K []
 |(j,o)::r,k,K=>bif Nat.beq j k then Ev r k K else Ev r k fun r=>K ((j,o)::r)
def fzK (e:dS) (h:aN) (d:Nat) (m:Bool) (k:Nat) (j:aB Nat) (K:dS->aN->aB R):aB R:=
 hK h k fun ob=>match Kl m ob with
 |some x=>mC k e fun e=>iK k h fun h=>fO h k (.lst 0 0 true []) fun h=>match j with
  |none=>gE e [d] fun e=>K ((d,x)::e) h
  |some j=>mF e d fun v=>match v with
   |.agg cs=>oX cs j [x] fun cs=>gE e [d] fun e=>K ((d,.agg cs)::e) h
   |_=>none
 |none=>none
def wG:PV->aB (Bool×Nat)
 |.own k=>some (false,k)
 |.map k=>some (true,k)
 |_=>none
def Ew:dQ->Bool
 |.store _|.mapup .. =>true
 |_=>false
def Wp:PV->Bool
 |.fn .. =>true
 |_=>false
def bT:fU->aA Nat->aA Nat
 |.nil,a=>a
 |.op d _ _ _ r,a=>d::bT r a
 |.sto _ _ _ r,a=>bT r a
 |.ifx d _ _ b _ _ r,a=>d::bT b (bT r a)
 |.ifn d _ _ b _ _ r,a=>d::bT b (bT r a)
 |.mkfl d _ _ _ _ r,a=>d::bT r a
 |.lax _ _ r,a=>bT r a
 |.own _ _ _ _ r,a=>bT r a
 |.ownc _ _ _ _ _ r,a=>bT r a
 |.laxc _ _ _ r,a=>bT r a
 |.fz _ _ r,a=>bT r a
 |.laxm _ _ r,a=>bT r a
def cO (C:qN) (X:NX) (dr:Nat):fU->dS->aN->Nat->(dS->aN->Nat->aB R)->aB R
 |.nil,e,h,n,K=>K e h n
 |.op d k xs kill bV,e,h,n,K=>mX e xs fun as=>
  match k,as with
  |.append ty es _ _ false,[s,x]=>fR1 e h d ty es kill s x fun e h=>cO C X dr bV e h n K
  |.slc es false true false,[.own k,.v (.int _ hi)]=>Ii e h d es kill k hi fun e h=>cO C X dr bV e h n K
  |.callF f,as=>bif X.is f then fS1 (yC 4294967296 kill) (X.run f as) (X.nw f) as e h n (d::kill) fun v e h n=>cO C X dr bV ((d,v)::e) h n K
   else tK C f as h fun v=>gE e (d::kill) fun e=>cO C X dr bV ((d,v)::e) h n K
  |.callV,.yld k::as=>bif Nat.beq dr 3 then none else inK (X.yld k as) false (.yld k::as) e h n (d::kill) fun v e h n=>cO C X dr bV ((d,v)::e) h n K
  |.callV,.fn f first cap::as=>bif X.is f then bif Nat.beq dr 3 then none else inK (X.run f (first++as++cap)) (X.nw f) (first++as++cap) e h n (d::kill) fun v e h n=>cO C X dr bV ((d,v)::e) h n K
   else tK C f (first++as++cap) h fun v=>gE e (d::kill) fun e=>cO C X dr bV ((d,v)::e) h n K
  |k,as=>opK C X k as h n fun v h n=>gE e (d::kill) fun e=>cO C X dr bV ((d,v)::e) h n K
 |.sto k xs kill bV,e,h,n,K=>mX e xs fun as=>cM k as h n fun _ h n=>gE e kill fun e=>cO C X dr bV e h n K
 |.ifx d c w body x kill bV,e,h,n,K=>mF e c fun a=>match a with
  |.v (.bool b)=>
   bS (bif w then Gu b (opsB C X body e h n x) (some false)else Gu b (some true) (opsB C X body e h n x))
    fun y=>gE e (d::bT body kill) fun e=>cO C X dr bV ((d,.v (.bool y))::e) h n K
  |_=>none
 |.ifn d c w body x kill bV,e,h,n,K=>mF e c fun a=>match a with
  |.v (.bool b)=>
   bif w then Gu b (cO C X dr body e h n fun e h n=>mX e [x] fun vs=>match vs with
     |[y]=>gE e (d::bT body kill) fun e=>cO C X dr bV ((d,y)::e) h n K
     |_=>none) (gE e (d::bT body kill) fun e=>cO C X dr bV ((d,.v (.bool false))::e) h n K)
   else Gu b (gE e (d::bT body kill) fun e=>cO C X dr bV ((d,.v (.bool true))::e) h n K) (cO C X dr body e h n fun e h n=>mX e [x] fun vs=>match vs with
     |[y]=>gE e (d::bT body kill) fun e=>cO C X dr bV ((d,y)::e) h n K
     |_=>none)
  |_=>none
 |.mkfl d ty zero xs kill bV,e,h,n,K=>mX e xs fun as=>bif Nat.beq zero.length 1&&as.all Wp then gE e (d::kill) fun e=>cO C X dr bV ((d,.own n)::e) ((n,.fl as)::h) (n+1) K else none
 |.lax d es bV,e,h,n,K=>mF e d fun v=>match v,es with
  |.v (.slice none 0 0),[some s]=>gE e [d] fun e=>cO C X dr bV ((d,.is s [])::e) h n K
  |.agg cs,es=>Nc es cs fun cs=>gE e [d] fun e=>cO C X dr bV ((d,.agg cs)::e) h n K
  |_,_=>none
 |.own d ty s g bV,e,h,n,K=>mF e d fun v=>match v with
  |.v (.slice none 0 0)=>gE e [d] fun e=>cO C X dr bV ((d,.own n)::e) ((n,kZ ty s g)::h) (n+1) K
  |_=>none
 |.fz d j bV,e,h,n,K=>mF e d fun v=>match j with
  |none=>match wG v with
   |some (m,k)=>fzK e h d m k none fun e h=>cO C X dr bV e h n K
   |none=>none
  |some j=>match v with
   |.agg cs=>fM j cs fun cs'=>match cs' with
    |c::_=>match wG c with
     |some (m,k)=>fzK e h d m k (some j) fun e h=>cO C X dr bV e h n K
     |none=>none
    |[]=>none
   |_=>none
 |.laxm d j bV,e,h,n,K=>mF e d fun v=>match j,v with
  |none,.v (.map none)=>gE e [d] fun e=>cO C X dr bV ((d,.zm [])::e) h n K
  |some j,.ref k _=>hK h k fun ob=>match ob with
   |.box cs=>fM j cs fun cs'=>match cs' with
    |.v (.map none)::_=>oX cs j [.zm []] fun cs=>fO h k (.box cs) fun h=>cO C X dr bV e h n K
    |_=>none
   |_=>none
  |_,_=>none
 |.laxc d j s bV,e,h,n,K=>mF e d fun v=>match v with
  |.ref k _=>hK h k fun ob=>match ob with
   |.box cs=>fM j cs fun cs'=>match cs' with
    |.v (.slice none 0 0)::_=>oX cs j [.is s []] fun cs=>fO h k (.box cs) fun h=>cO C X dr bV e h n K
    |_=>none
   |_=>none
  |_=>none
 |.ownc d j ty s g bV,e,h,n,K=>mF e d fun v=>match v with
  |.ref k _=>hK h k fun ob=>match ob with
   |.box cs=>fM j cs fun cs'=>match cs' with
    |.v (.slice none 0 0)::_=>oX cs j [.own n] fun cs=>fO h k (.box cs) fun h=>cO C X dr bV e ((n,kZ ty s g)::h) (n+1) K
    |_=>none
   |_=>none
  |_=>none
 where
 opsB (C:qN) (X:NX):fU->dS->aN->Nat->PX->aB Bool
 |.nil,e,_,_,x=>mX e [x] fun vs=>match vs with
  |[.v (.bool b)]=>some b
  |_=>none
 |.op d k xs kill bV,e,h,n,x=>mX e xs fun as=>
  bif Ew k then none else opK C X k as h n fun v h n=>gE e (d::kill) fun e=>opsB C X bV ((d,v)::e) h n x
 |.ifx d c w body x' kill bV,e,h,n,x=>mF e c fun a=>match a with
  |.v (.bool b)=>
   bS (bif w then Gu b (opsB C X body e h n x') (some false)else Gu b (some true) (opsB C X body e h n x'))
    fun y=>gE e (d::bT body kill) fun e=>opsB C X bV ((d,.v (.bool y))::e) h n x
  |_=>none
 |_,_,_,_,_=>none
def mD (n:Nat):Nat->PV->Bool
 |0,_=>false
 |d+1,x=>match x with
  |.ref k _|.own k|.el k _ _|.map k|.yld k=>Nat.blt k n
  |.fn _ a b=>a.all (mD n d)&&b.all (mD n d)
  |.agg cs=>cs.all (mD n d)
  |.tup cs=>cs.all (mD n d)
  |_=>true
def Km:dS->Nat->(PV->aB R)->aB R->aB R
 |[],_,_,D=>D
 |(j,v)::r,i,K,D=>bif Nat.beq j i then K v else Km r i K D
def Ey:dS->aA Nat->Nat->(dS->aB R)->aB R
 |_,[],_,K=>K []
 |e,i::is,n,K=>Km e i (fun v=>bif mD n 4 v then Ey e is n fun r=>K ((i,v)::r)else none) (Ey e is n K)
def qO (n:Nat):fG->Bool
 |.box cs=>cs.all (mD n 4)
 |.fl cs=>cs.all (mD n 4)
 |.loop _ e _ _ _ _ _=>e.all fun q=>mD n 4 q.2
 |_=>true
def Kn:aN->aN->Nat->(aN->aB R)->aB R
 |[],_,_,K=>K []
 |(k,_)::r,h,n,K=>hK h k fun o=>bif qO n o then Kn r h n fun r=>K ((k,o)::r)else none
def aR {S E:Type} (body:S->aB (S⊕E)):Nat->S->aB E
 |0,_=>none
 |n+1,s=>(body s).bind fun r=>match r with
  |.inl s=>aR body n s
  |.inr e=>some e
def aY:Nat:=18446744073709551616
structure Ez where
 e:dS
 h:aN
def wH (body:dS->aN->(Ex->dS->aN->aB R)->aB R) (a:dS->aN->(Ez->aB R)->aB R):Nat->Ez->(Ex->Ez->aB R)->aB R
 |0,_,_=>none
 |m+1,s,K=>body s.e s.h fun x e h=>a e h fun s=>match x with
  |.normal=>wH body a m s K
  |.exit i=>K (.exit i) s
  |.ret=>K .ret s
def Ko:dS->aA Nat->(dS->aB R)->aB R
 |_,[],K=>K []
 |e,i::is,K=>mF e i fun v=>Ko e is fun r=>K ((i,v)::r)
def jQ (keep:aA Nat) (h0:aN) (n0:Nat) (e:dS) (h:aN) (K:Ez->aB R):aB R:=
 Ey e keep n0 fun e=>Kn h0 h n0 fun h=>K ⟨e,h⟩
def lk (x:Ex) (a b:aA Nat):aA Nat:=match x with
 |.normal=>a
 |_=>b
abbrev dC (X:NX) (f:FuncId) (xs:aA PV) (hs:aN) (m:Nat) (nw:Bool):aB (PV×aN×Nat):=X.run f xs hs m (yD hs nw m)
abbrev tW (X:NX) (k:Nat) (xs:aA PV) (hs:aN) (m:Nat):aB (PV×aN×Nat):=X.yld k xs hs m (yD hs false m)
def dK:dS->Nat->aB PV
 |[],_=>none
 |(j,v)::r,i=>if j=i then some v else dK r i
def aK:aN->Nat->aB fG
 |[],_=>none
 |(j,v)::r,i=>if j=i then some v else aK r i
def qP:PV->aB Nat
 |.ref k _|.own k|.el k _ _|.map k=>some k
 |_=>none
def Rm:PV->Bool
 |.ip _|.v _|.is _ _|.im _=>true
 |_=>false
def Ij (h:aN) (x y:PV):Bool:=Rm x||Rm y||match qP x,qP y with
 |some k,some k'=> !Nat.beq k k'&&(aK h k).isSome&&(aK h k').isSome
 |_,_=>false
def exB (e:dS) (h:aN) (ex:aA (Nat×Nat×Nat×Nat)):Bool:=ex.all fun p=>match dK e p.2.2.1,dK e p.2.2.2 with
 |some x,some y=>Ij h x y
 |_,_=>false
def eD (C:qN) (X:NX) {R:Type}:PC->dS->aN->Nat->(Ex->dS->aN->Nat->aB R)->aB R
 |.skip,e,h,n,K=>K .normal e h n
 |.reg ops,e,h,n,K=>cO C X 0 ops e h n (K .normal)
 |.regD dr ops _,e,h,n,K=>cO C X dr ops e h n (K .normal)
 |.dead _,_,_,_,_=>none
 |.regX dr ops _ ex,e,h,n,K=>cO C X dr ops e h n fun e h n=>bif exB e h ex then K .normal e h n else none
 |.seq a b,e,h,n,K=>eD C X a e h n (fun x e h n=>match x with|.normal=>eD C X b e h n K|.exit i=>K (.exit i) e h n|.ret=>K .ret e h n)
 |.cond c a b,e,h,n,K=>mX e [c] fun vs=>match vs with
  |[.v (.bool t)]=>Gu t (eD C X a e h n K) (eD C X b e h n K)
  |_=>none
 |.condJ keep c a b,e,h,n,K=>mX e [c] fun vs=>match vs with
  |[.v (.bool t)]=>bS (Gu t (eD C X a e h n fun x e' h' _=>jQ keep h n e' h' fun s=>some (x,s)) (eD C X b e h n fun x e' h' _=>jQ keep h n e' h' fun s=>some (x,s)))
    fun r=>K r.1 r.2.e r.2.h n
  |_=>none
 |.block id c,e,h,n,K=>eD C X c e h n (fun x e h n=>match x with|.exit i=>bif Nat.beq i id then K .normal e h n else K (.exit i) e h n|.normal=>K .normal e h n|.ret=>K .ret e h n)
 |.loop keep kx c,e,h,n,K=>jQ keep h n e h fun s0=>
   bS (aR (fun s:Ez=>eD C X c s.e s.h n fun x e' h' _=>jQ (lk x keep kx) h n e' h' fun s'=>some (match x with|.normal=>.inl s'|x=>.inr (x,s'))) aY s0)
    fun r=>K r.1 r.2.e r.2.h n
 |.condL c a b,e,h,n,K=>mX e [c] fun vs=>match vs with
  |[.v (.bool t)]=>match t with
   |true=>eD C X a e h n K
   |false=>eD C X b e h n K
  |_=>none
 |.loopU m keep c,e,h,n,K=>jQ keep h n e h fun s0=>
   wH (fun e h K=>eD C X c e h n fun x e h _=>K x e h) (fun e' h' K=>jQ keep h n e' h' K) m s0 fun x s=>K x s.e s.h n
 |.rangeF N keep f ps a b,e,h,n,K=>mX e [f] fun vs=>match vs with
  |[.fn g first cap]=>bif X.is g then Ko e keep fun d=>
    inK (X.run g (first++[.yld n]++cap)) false (first++[.yld n]++cap) e ((n,.loop N d ps a b false none)::h) (n+1) [] fun _ e h m=>
     hK h n fun ob=>match ob with
     |.loop _ _ _ _ _ false fin=>Ev h n fun h=>match fin with
      |none=>K .normal e h m
      |some (.exit i)=>K (.exit i) e h m
      |some .ret=>K .ret e h m
      |some .normal=>none
     |_=>none
   else none
  |_=>none
 |.exit id,e,h,n,K=>K (.exit id) e h n
 |.ret,e,h,n,K=>K .ret e h n
end
end Go.P
namespace Go.P
open Go.Sim (AV AO Hp eO upd St IC IX Ex dQ CK)
def jT1:PV->AV
 |.v x=>.v x
 |_=>.tup []
def eV:PV->AV
 |.v x=>.v x
 |.is _ []=>.v (.slice none 0 0)
 |.fn f [] []=>.fn (.func f) [] []
 |.agg cs=>.agg (cs.map jT1)
 |_=>.tup []
def isV:PV->Bool
 |.v _=>true
 |_=>false
def okC:PV->Bool
 |.v _=>true
 |.is _ []=>true
 |.fn _ [] []=>true
 |.agg cs=>cs.all isV
 |_=>false
def eX:PX->IX
 |.t i=>.t i
 |.c x=>.c (eV x)
def nU (g:aB (Nat×Bool)):fU->aA Sim.Op1
 |.nil=>[]
 |.op d k xs _ r=>⟨some d,k,xs.map eX,g⟩::nU g r
 |.sto k xs _ r=>⟨none,k,xs.map eX,g⟩::nU g r
 |.ifx d c w b x _ r=>nU (some (c,w)) b++⟨some d,.pick,if w then[.t c,eX x,.c (.v (.bool false))]else[.t c,.c (.v (.bool true)),eX x],g⟩::nU g r
 |.ifn d c w b x _ r=>nU (some (c,w)) b++⟨some d,.pick,if w then[.t c,eX x,.c (.v (.bool false))]else[.t c,.c (.v (.bool true)),eX x],g⟩::nU g r
 |.mkfl d ty zero xs _ r=>⟨some d,.buildSl ty 1 xs.length zero (List.range xs.length),xs.map eX,g⟩::nU g r
 |.lax _ _ r=>nU g r
 |.own _ _ _ _ r=>nU g r
 |.ownc _ _ _ _ _ r=>nU g r
 |.laxc _ _ _ r=>nU g r
 |.fz _ _ r=>nU g r
 |.laxm _ _ r=>nU g r
def tM:fU->Bool
 |.nil=>true
 |.lax _ _ r=>tM r
 |.own _ _ _ _ r=>tM r
 |.ownc _ _ _ _ _ r=>tM r
 |.laxc _ _ _ r=>tM r
 |.fz _ _ r=>tM r
 |.laxm _ _ r=>tM r
 |_=>false
def jU1:fU->Bool
 |.nil=>true
 |_=>false
def hZ:PC->IC
 |.skip=>.skip
 |.reg ops=>.reg (nU none ops)
 |.regD _ ops before=>.regD (nU none ops) before
 |.dead c=>c
 |.regX _ ops before _=>.regD (nU none ops) before
 |.seq a b=>match a with
  |.reg ops=>if tM ops&& !jU1 ops then hZ b else .seq (.reg (nU none ops)) (hZ b)
  |a=>.seq (hZ a) (hZ b)
 |.cond c a b=>.cond (eX c) (hZ a) (hZ b)
 |.condJ _ c a b=>.cond (eX c) (hZ a) (hZ b)
 |.condL c a b=>.cond (eX c) (hZ a) (hZ b)
 |.block id c=>.block id (hZ c)
 |.loop _ _ c=>.loop (hZ c)
 |.loopU _ _ c=>.loop (hZ c)
 |.rangeF _ _ f ps a b=>.rangeF (eX f) ps (hZ a) (hZ b)
 |.exit id=>.exit id
 |.ret=>.ret
end Go.P
namespace Go.P
open Go.Sim (AV AO Hp eO upd St IC IX Ex dQ CK Wf)
inductive RC:Bool->PV->AV->Prop
 |v {p:Bool} (x:Value):RC p (.v x) (.v x)
 |is {p:Bool} {e:Nat} {rows:List (List PV)} {rows':List (List AV)} (hl:rows.length=rows'.length)
   (hr:∀(i:Nat) (r:List PV) (r':List AV),rows[i]? =some r->rows'[i]? =some r'->r.length=r'.length)
   (hc:∀(i:Nat) (r:List PV) (r':List AV) (j:Nat) (x:PV) (y:AV),rows[i]? =some r->rows'[i]? =some r'->r[j]? =some x->r'[j]? =some y->RC true x y):RC p (.is e rows) (.is e rows')
 |isn {p:Bool} {e:Nat}:RC p (.is e []) (.v (.slice none 0 0))
 |ip {p:Bool} {cs:List PV} {cs':List AV} (hl:cs.length=cs'.length) (hc:∀(j:Nat) (x:PV) (y:AV),cs[j]? =some x->cs'[j]? =some y->RC false x y):RC p (.ip cs) (.ip cs')
 |im {es:List (PV×PV)} {es':List (AV×AV)} (hl:es.length=es'.length)
   (hk:∀(j:Nat) (x:PV×PV) (y:AV×AV),es[j]? =some x->es'[j]? =some y->RC false x.1 y.1)
   (hv:∀(j:Nat) (x:PV×PV) (y:AV×AV),es[j]? =some x->es'[j]? =some y->RC false x.2 y.2):RC false (.im es) (.im es')
 |fn {f:FuncId} {a b:List PV} {a' b':List AV} (h1:a.length=a'.length) (h2:b.length=b'.length)
   (v1:∀(j:Nat) (x:PV) (y:AV),a[j]? =some x->a'[j]? =some y->RC false x y) (v2:∀(j:Nat) (x:PV) (y:AV),b[j]? =some x->b'[j]? =some y->RC false x y):RC false (.fn f a b) (.fn (.func f) a' b')
 |agg {cs:List PV} {cs':List AV} (hl:cs.length=cs'.length) (hc:∀(j:Nat) (x:PV) (y:AV),cs[j]? =some x->cs'[j]? =some y->RC false x y):RC false (.agg cs) (.agg cs')
 |tup {cs:List PV} {cs':List AV} (hl:cs.length=cs'.length) (hc:∀(j:Nat) (x:PV) (y:AV),cs[j]? =some x->cs'[j]? =some y->RC false x y):RC false (.tup cs) (.tup cs')
theorem RC.weak {p:Bool} {x:PV} {y:AV} (h:RC p x y):RC false x y:=by
 cases h with
 |v x=>exact .v x
 |is hl hr hc=>exact .is hl hr hc
 |isn=>exact .isn
 |ip hl hc=>exact .ip hl hc
 |im a b c=>exact .im a b c
 |fn a b c d=>exact .fn a b c d
 |agg a b=>exact .agg a b
 |tup a b=>exact .tup a b
theorem RC.plain {x:PV} {y:AV} (h:RC false x y) (hp:eF x=true):RC true x y:=by
 cases h with
 |v x=>exact .v x
 |is hl hr hc=>exact .is hl hr hc
 |isn=>exact .isn
 |ip hl hc=>exact .ip hl hc
 |_=>simp[eF]at hp
def LR (R:PV->AV->Prop) (xs:aA PV) (ys:aA AV):Prop:=xs.length=ys.length/\∀(j:Nat) (x:PV) (y:AV),xs[j]? =some x->ys[j]? =some y->R x y
section
variable {R:PV->AV->Prop}
theorem LR.nil:LR R [] []:=⟨rfl,fun j x y h=>by simp at h⟩
theorem LR.cons {x:PV} {y:AV} {xs:aA PV} {ys:aA AV} (h:R x y) (d:LR R xs ys):LR R (x::xs) (y::ys):=
 ⟨by simp[d.1],fun j a b c hb=>by
  cases j with
  |zero=>simp at c hb;subst c hb;exact h
  |succ j=>simp at c hb;exact d.2 j a b c hb⟩
theorem LR.head {x:PV} {y:AV} {xs:aA PV} {ys:aA AV} (h:LR R (x::xs) (y::ys)):R x y:=h.2 0 x y rfl rfl
theorem LR.tail {x:PV} {y:AV} {xs:aA PV} {ys:aA AV} (h:LR R (x::xs) (y::ys)):LR R xs ys:=
 ⟨by simpa using h.1,fun j a b c hb=>h.2 (j+1) a b (by simpa using c) (by simpa using hb)⟩
theorem LR.inv_nil {ys:aA AV} (h:LR R [] ys):ys=[]:=by
 have:=h.1;cases ys with
 |nil=>rfl
 |cons a as=>simp at this
theorem LR.inv_cons {x:PV} {xs:aA PV} {ys:aA AV} (h:LR R (x::xs) ys):∃y b,ys=y::b/\R x y/\LR R xs b:=by
 cases ys with
 |nil=>have:=h.1;simp at this
 |cons a as=>exact⟨a,as,rfl,h.head,h.tail⟩
theorem LR.append {xs xs':aA PV} {ys b:aA AV} (h:LR R xs ys) (h':LR R xs' b):LR R (xs++xs') (ys++b):=by
 induction xs generalizing ys with
 |nil=>rw[h.inv_nil];exact h'
 |cons a as ih=>
  obtain⟨y,c,rfl,h1,h2⟩:=h.inv_cons;exact .cons h1 (ih h2)
theorem LR.take {xs:aA PV} {ys:aA AV} (h:LR R xs ys) (n:Nat):LR R (xs.take n) (ys.take n):=
 ⟨by simp[h.1],fun j x y a hy=>by
  rw[kY2]at a hy
  split at a
  rename_i b
  rw[jX2 b]at hy
  exact h.2 j x y a hy
  cases a⟩
theorem LR.drop {xs:aA PV} {ys:aA AV} (h:LR R xs ys) (n:Nat):LR R (xs.drop n) (ys.drop n):=
 ⟨by simp[h.1],fun j x y a hy=>by
  rw[lG2]at a hy
  exact h.2 _ x y a hy⟩
theorem LR.get {xs:aA PV} {ys:aA AV} (h:LR R xs ys) {j:Nat} {x:PV} (b:xs[j]? =some x):∃y,ys[j]? =some y/\R x y:=by
 have a:j<ys.length:=by rw[<-h.1];exact(jP2.1 b).1
 exact⟨ys[j],by simp[a],h.2 j x _ b (by simp[a])⟩
theorem LR.mono {R':PV->AV->Prop} {xs:aA PV} {ys:aA AV} (h:LR R xs ys) (c:∀x y,R x y->R' x y):LR R' xs ys:=⟨h.1,fun j x y a b=>c x y (h.2 j x y a b)⟩
theorem LR.set {xs:aA PV} {ys:aA AV} (h:LR R xs ys) {x:PV} {y:AV} (d:R x y) (n:Nat):LR R (xs.set n x) (ys.set n y):=
 ⟨by simp[h.1],fun j a b c hb=>by
  rw[kN2]at c hb
  split at c
  rename_i e;subst e
  rw[jX2 rfl]at hb
  split at c
  split at hb
  cases c;cases hb;exact d
  cases hb
  cases c
  rename_i e
  rw[jU2 e]at hb
  exact h.2 j a b c hb⟩
theorem LR.setL {xs xs':aA PV} {ys b:aA AV} (h:LR R xs ys) (h':LR R xs' b) (o:Nat):LR R (Sim.setL xs o xs') (Sim.setL ys o b):=by
 induction xs' generalizing xs ys b o with
 |nil=>rw[h'.inv_nil];exact h
 |cons a as ih=>
  obtain⟨y,c,rfl,h1,h2⟩:=h'.inv_cons;exact ih (h.set h1 o) h2 (o+1)
end
def RR (rows:aA (aA PV)) (rows':aA (aA AV)):Prop:=
 rows.length=rows'.length/\∀(i:Nat) (r:aA PV) (r':aA AV),rows[i]? =some r->rows'[i]? =some r'->LR (RC true) r r'
theorem RR.is {p:Bool} {e:Nat} {rows:aA (aA PV)} {rows':aA (aA AV)} (h:RR rows rows'):RC p (.is e rows) (.is e rows'):=
 .is h.1 (fun i r r' a b=>(h.2 i r r' a b).1) (fun i r r' j x y a b c d=>(h.2 i r r' a b).2 j x y c d)
theorem RR.of_is {rows:aA (aA PV)} {rows':aA (aA AV)} (hl:rows.length=rows'.length)
   (hr:∀(i:Nat) (r:aA PV) (r':aA AV),rows[i]? =some r->rows'[i]? =some r'->r.length=r'.length)
   (hc:∀(i:Nat) (r:aA PV) (r':aA AV) (j:Nat) (x:PV) (y:AV),rows[i]? =some r->rows'[i]? =some r'->r[j]? =some x->r'[j]? =some y->RC true x y):RR rows rows':=
 ⟨hl,fun i r r' a b=>⟨hr i r r' a b,fun j x y c d=>hc i r r' j x y a b c d⟩⟩
theorem RR.nil:RR [] []:=⟨rfl,fun i r r' h=>by simp at h⟩
theorem RR.cons {r:aA PV} {r':aA AV} {rows:aA (aA PV)} {rows':aA (aA AV)} (h:LR (RC true) r r') (d:RR rows rows'):RR (r::rows) (r'::rows'):=
 ⟨by simp[d.1],fun j a b c hb=>by
  cases j with
  |zero=>simp at c hb;subst c hb;exact h
  |succ j=>simp at c hb;exact d.2 j a b c hb⟩
theorem RR.get {rows:aA (aA PV)} {rows':aA (aA AV)} (h:RR rows rows') {i:Nat} {r:aA PV} (hr:rows[i]? =some r):∃r',rows'[i]? =some r'/\LR (RC true) r r':=by
 have a:i<rows'.length:=by rw[<-h.1];exact(jP2.1 hr).1
 exact⟨rows'[i],by simp[a],h.2 i r _ hr (by simp[a])⟩
theorem RR.append {a b:aA (aA PV)} {a' b':aA (aA AV)} (h:RR a a') (k:RR b b'):RR (a++b) (a'++b'):=
 ⟨by simp[h.1,k.1],fun i r r' h1 h2=>by
  rw[lJ2]at h1 h2
  rw[<-h.1]at h2
  split at h1
  rename_i hi;rw[jX2 hi]at h2;exact h.2 i r r' h1 h2
  rename_i hi;rw[jU2 hi]at h2;exact k.2 _ r r' h1 h2⟩
theorem RR.take {a:aA (aA PV)} {a':aA (aA AV)} (h:RR a a') (n:Nat):RR (a.take n) (a'.take n):=
 ⟨by simp[h.1],fun j x y b hy=>by
  rw[kY2]at b hy
  split at b
  rename_i c;rw[jX2 c]at hy;exact h.2 j x y b hy
  cases b⟩
theorem RR.drop {a:aA (aA PV)} {a':aA (aA AV)} (h:RR a a') (n:Nat):RR (a.drop n) (a'.drop n):=
 ⟨by simp[h.1],fun j x y b hy=>by
  rw[lG2]at b hy
  exact h.2 _ x y b hy⟩
theorem RR.set {a:aA (aA PV)} {a':aA (aA AV)} (h:RR a a') {x:aA PV} {y:aA AV} (c:LR (RC true) x y) (n:Nat):RR (a.set n x) (a'.set n y):=
 ⟨by simp[h.1],fun j p q b hb=>by
  rw[kN2]at b hb
  split at b
  rename_i e;subst e
  rw[jX2 rfl]at hb
  split at b
  split at hb
  cases b;cases hb;exact c
  cases hb
  cases b
  rename_i e
  rw[jU2 e]at hb
  exact h.2 j p q b hb⟩
theorem RR.replicate {r:aA PV} {r':aA AV} (h:LR (RC true) r r') (n:Nat):RR (List.replicate n r) (List.replicate n r'):=
 ⟨by simp,fun i x y a hy=>by
  simp only[List.getElem?_replicate]at a hy
  split at a
  grind
  cases a⟩
def ER (es:aA (PV×PV)) (es':aA (AV×AV)):Prop:=
 es.length=es'.length/\∀(j:Nat) (x:PV×PV) (y:AV×AV),es[j]? =some x->es'[j]? =some y->RC false x.1 y.1/\RC false x.2 y.2
theorem ER.im {es:aA (PV×PV)} {es':aA (AV×AV)} (h:ER es es'):RC false (.im es) (.im es'):=.im h.1 (fun j x y a b=>(h.2 j x y a b).1) (fun j x y a b=>(h.2 j x y a b).2)
def RK (x:PV) (y:AV):Prop:=RC true x y\/∃cs cs',x=.agg cs/\y=.agg cs'/\LR (RC true) cs cs'
theorem RK.rc {x:PV} {y:AV} (h:RK x y):RC false x y:=by
 rcases h with h|⟨cs,cs',rfl,rfl,h⟩
 exact h.weak;exact .agg h.1 fun j x y a b=>(h.2 j x y a b).weak
def EM (es:aA (PV×PV)) (es':aA (AV×AV)):Prop:=
 es.length=es'.length/\∀(j:Nat) (x:PV×PV) (y:AV×AV),es[j]? =some x->es'[j]? =some y->RK x.1 y.1/\RK x.2 y.2
theorem EM.er {es:aA (PV×PV)} {es':aA (AV×AV)} (h:EM es es'):ER es es':=⟨h.1,fun j x y a b=>⟨(h.2 j x y a b).1.rc,(h.2 j x y a b).2.rc⟩⟩
inductive Pl where
 |nil
 |atp (id ver e len:Nat)
structure Cx where
 f:Nat->Option Pl
 z:Nat->Option AO
instance:CoeFun Cx fun _=>Nat->Option Pl:=⟨Cx.f⟩
def Cx.le (C C':Cx):Prop:=(∀k pl,C k=some pl->C' k=some pl)/\∀id o,C.z id=some o->C'.z id=some o
theorem Cx.le.refl (C:Cx):C.le C:=⟨fun _ _ h=>h,fun _ _ h=>h⟩
theorem Cx.le.trans {A B C:Cx} (h:A.le B) (k:B.le C):A.le C:=⟨fun a b c=>k.1 a b (h.1 a b c),fun a b c=>k.2 a b (h.2 a b c)⟩
def RZ (z:Nat->aB AO):Nat->PV->AV->Prop
 |0,x,y=>RC true x y
 |d+1,x,y=>RC true x y\/∃e rows id ver ty els,x=.is e rows/\y=.sl e id ver 0 rows.length none/\z id=some (.arr false ty e ver els)/\rows.length<=els.length/\
   ∀(i:Nat) (r:aA PV) (r':aA AV),rows[i]? =some r->els[i]? =some r'->LR (RZ z d) r r'
theorem RZ.of {z:Nat->aB AO} {d:Nat} {x:PV} {y:AV} (h:RC true x y):RZ z d x y:=by
 cases d with
 |zero=>exact h
 |succ d=>exact .inl h
theorem RZ.up1 {z:Nat->aB AO}:∀{d:Nat} {x:PV} {y:AV},RZ z d x y->RZ z (d+1) x y
 |0,_,_,h=>.inl h
 |d+1,x,y,h=>by
  rcases h with h|⟨e,rows,id,ver,ty,els,h1,h2,h3,h4,h5⟩
  exact .inl h
  exact .inr ⟨e,rows,id,ver,ty,els,h1,h2,h3,h4,fun i r r' a b=>(h5 i r r' a b).mono fun x y h=>RZ.up1 h⟩
theorem RZ.up {z:Nat->aB AO} {d a:Nat} (hd:d<=a) {x:PV} {y:AV} (h:RZ z d x y):RZ z a x y:=by
 induction hd with
 |refl=>exact h
 |step _ ih=>exact ih.up1
theorem RZ.mono {z f:Nat->aB AO} (c:∀id o,z id=some o->f id=some o):∀{d:Nat} {x:PV} {y:AV},RZ z d x y->RZ f d x y
 |0,_,_,h=>h
 |d+1,x,y,h=>by
  rcases h with h|⟨e,rows,id,ver,ty,els,h1,h2,h3,h4,h5⟩
  exact .inl h
  exact .inr ⟨e,rows,id,ver,ty,els,h1,h2,c _ _ h3,h4,fun i r r' a b=>(h5 i r r' a b).mono fun x y h=>RZ.mono c h⟩
def zH (z:Nat->aB AO) (d:Nat) (rows:aA (aA PV)) (rows':aA (aA AV)):Prop:=
 rows.length=rows'.length/\∀(i:Nat) (r:aA PV) (r':aA AV),rows[i]? =some r->rows'[i]? =some r'->LR (RZ z d) r r'
theorem RR.z {z:Nat->aB AO} {d:Nat} {rows:aA (aA PV)} {rows':aA (aA AV)} (h:RR rows rows'):zH z d rows rows':=⟨h.1,fun i r r' a b=>(h.2 i r r' a b).mono fun _ _ h=>RZ.of h⟩
theorem zH.mono {z c:Nat->aB AO} (e:∀id o,z id=some o->c id=some o) {d:Nat} {rows:aA (aA PV)} {rows':aA (aA AV)} (h:zH z d rows rows'):zH c d rows rows':=⟨h.1,fun i r r' a b=>(h.2 i r r' a b).mono fun _ _ h=>RZ.mono e h⟩
theorem zH.up {z:Nat->aB AO} {d c:Nat} (hd:d<=c) {rows:aA (aA PV)} {rows':aA (aA AV)} (h:zH z d rows rows'):zH z c rows rows':=⟨h.1,fun i r r' a b=>(h.2 i r r' a b).mono fun _ _ h=>RZ.up hd h⟩
theorem zH.nil {z:Nat->aB AO} {d:Nat}:zH z d [] []:=⟨rfl,fun i r r' h=>by simp at h⟩
theorem zH.append {z:Nat->aB AO} {d:Nat} {a b:aA (aA PV)} {a' b':aA (aA AV)} (h:zH z d a a') (k:zH z d b b'):zH z d (a++b) (a'++b'):=
 ⟨by simp[h.1,k.1],fun i r r' h1 h2=>by
  rw[lJ2]at h1 h2
  rw[<-h.1]at h2
  split at h1
  rename_i hi;rw[jX2 hi]at h2;exact h.2 i r r' h1 h2
  rename_i hi;rw[jU2 hi]at h2;exact k.2 _ r r' h1 h2⟩
inductive RV (C:Cx):PV->AV->Prop
 |cl {x:PV} {y:AV} (h:RC false x y):RV C x y
 |undef {y:AV}:RV C .undef y
 |ref {k o id ver e len:Nat} (h:C k=some (.atp id ver e len)):RV C (.ref k o) (.ptr id ver 0 o)
 |own {k id ver e len:Nat} (h:C k=some (.atp id ver e len)):RV C (.own k) (.sl e id ver 0 len none)
 |ownn {k:Nat} {y:AV} (h:C k=some .nil) (hy:y=.v (.slice none 0 0)):RV C (.own k) y
 |el {k i o id ver e len:Nat} (h:C k=some (.atp id ver e len)):RV C (.el k i o) (.ptr id ver i o)
 |map {k id ver e len:Nat} (h:C k=some (.atp id ver e len)):RV C (.map k) (.map id)
 |fn {f:FuncId} {a b:List PV} {a' b':List AV} (h1:a.length=a'.length) (h2:b.length=b'.length)
   (v1:∀(j:Nat) (x:PV) (y:AV),a[j]? =some x->a'[j]? =some y->RV C x y) (v2:∀(j:Nat) (x:PV) (y:AV),b[j]? =some x->b'[j]? =some y->RV C x y):RV C (.fn f a b) (.fn (.func f) a' b')
 |yld {k id ver e len:Nat} (h:C k=some (.atp id ver e len)):RV C (.yld k) (.fn (.yield id) [] [])
 |agg {cs:List PV} {cs':List AV} (hl:cs.length=cs'.length) (hc:∀(j:Nat) (x:PV) (y:AV),cs[j]? =some x->cs'[j]? =some y->RV C x y):RV C (.agg cs) (.agg cs')
 |tup {cs:List PV} {cs':List AV} (hl:cs.length=cs'.length) (hc:∀(j:Nat) (x:PV) (y:AV),cs[j]? =some x->cs'[j]? =some y->RV C x y):RV C (.tup cs) (.tup cs')
 |zs {d e:Nat} {rows:List (List PV)} {y:AV} (h:RZ C.z d (.is e rows) y):RV C (.zs d e rows) y
 |zm {es:List (PV×PV)} {id:Nat} {es':List (AV×AV)} (h:C.z id=some (.map es')) (he:EM es es'):RV C (.zm es) (.map id)
 |zm0:RV C (.zm []) (.v (.map none))
theorem RV.mono {C C':Cx} (a:C.le C') {x:PV} {y:AV} (h:RV C x y):RV C' x y:=by
 induction h with
 |cl h=>exact .cl h
 |undef=>exact .undef
 |ref h=>exact .ref (a.1 _ _ h)
 |own h=>exact .own (a.1 _ _ h)
 |ownn h hy=>exact .ownn (a.1 _ _ h) hy
 |el h=>exact .el (a.1 _ _ h)
 |map h=>exact .map (a.1 _ _ h)
 |yld h=>exact .yld (a.1 _ _ h)
 |fn h1 h2 v1 v2 i1 i2=>exact .fn h1 h2 i1 i2
 |agg hl hc ih=>exact .agg hl ih
 |tup hl hc ih=>exact .tup hl ih
 |zs h=>exact .zs (RZ.mono a.2 h)
 |zm h he=>exact .zm (a.2 _ _ h) he
 |zm0=>exact .zm0
def cP (C:Cx) (e:dS) (t:aA AV):Prop:=∀i v,dK e i=some v->∃y,t[i]? =some y/\RV C v y
def StR:Bool->aB Ex->LoopState->aB IC->Prop
 |false,none,st,pend=>st=.ready/\pend=none
 |true,none,st,pend=>st=.busy
 |false,some (.exit i),st,pend=>st=.done/\pend=some (.exit i)
 |false,some .ret,st,pend=>st=.done/\pend=some .ret
 |_,_,_,_=>False
def iA (C:Cx) (L:Nat->aB AO) (lim nS:Nat):fG->Pl->Prop
 |.box cells,.atp id ver _ _=>lim<=id/\id<nS/\∃ty esz row,L id=some (.arr true ty esz ver [row])/\LR (RV C) cells row
 |.lst _ e _ rows,.nil=>rows=[]
 |.lst ty e g rows,.atp id ver e' len=>lim<=id/\id<nS/\e'=e/\len=rows.length/\∃els,L id=some (.arr false (xU ty) e ver els)/\RR rows (els.take rows.length)/\rows.length<=els.length/\(g=false->els.length=rows.length)
 |.lz _ _ _ rows,.nil=>rows=[]
 |.lz ty e dp rows,.atp id ver e' len=>lim<=id/\id<nS/\e'=e/\len=rows.length/\fE ty=false/\∃els,L id=some (.arr false ty e ver els)/\zH C.z dp rows els
 |.mp es,.atp id _ _ _=>lim<=id/\id<nS/\∃es',L id=some (.map es')/\EM es es'
 |.fl fs,.atp id ver e len=>lim<=id/\id<nS/\e=1/\len=fs.length/\∃ty els,L id=some (.arr false ty 1 ver els)/\els.length=fs.length/\∀(i:Nat) (f:PV) (row:aA AV),fs[i]? =some f->els[i]? =some row->LR (RV C) [f] row
 |.loop N e ps a b busy fin,.atp id _ _ _=>lim<=id/\id<nS/\∃st pend tmps,L id=some (.loop st pend tmps ps (hZ a) (hZ b))/\tmps.length=N/\cP C e tmps/\StR busy fin st pend
 |_,_=>False
def nbO:AO->Bool
 |.arr bx _ _ _ _=> !bx
 |.map _=>true
 |_=>false
structure HR (C:Cx) (h:aN) (L:Nat->Option AO) (lim nS:Nat):Prop where
 ob:∀k po,aK h k=some po->∃pl,C k=some pl/\iA C L lim nS po pl
 inj:∀k k' id v e l v' e' l',aK h k≠none->aK h k'≠none->C k=some (.atp id v e l)->C k'=some (.atp id v' e' l')->k=k'
 zr:∀id o,C.z id=some o->L id=some o/\id<nS/\(∀k v e l,aK h k≠none->C k≠some (.atp id v e l))/\nbO o=true
def Own (C:Cx) (h:aN) (id:Nat):Prop:=∃k v e l,aK h k≠none/\C k=some (.atp id v e l)
def dN:aA eO->aA eO->Prop
 |[],[]=>True
 |.mark::a,.mark::b=>dN a b
 |.ob i _::a,.ob j _::b=>i=j/\dN a b
 |_,_=>False
def Sk (h h':aA eO) (n:Nat):Prop:=∃pre r,h'=pre++r/\dN r h/\∀e∈pre,∃i o,e=.ob i o/\n<=i
theorem dN.refl:∀h,dN h h
 |[]=>trivial
 |.mark::a=>dN.refl a
 |.ob _ _::a=>⟨rfl,dN.refl a⟩
theorem dN.trans:∀{a b c:aA eO},dN a b->dN b c->dN a c
 |[],[],[],_,_=>trivial
 |.mark::a,.mark::b,.mark::c,h,k=>dN.trans (a:=a) h k
 |.ob _ _::a,.ob _ _::b,.ob _ _::c,h,k=>⟨h.1.trans k.1,dN.trans h.2 k.2⟩
theorem dN.upd:∀(h:aA eO) (id:Nat) (o:AO),dN (upd h id o) h
 |[],_,_=>trivial
 |.mark::a,id,o=>dN.upd a id o
 |.ob i o'::a,id,o=>by
  simp only[Sim.upd]
  split
  exact⟨rfl,.refl a⟩
  exact⟨rfl,dN.upd a id o⟩
theorem dN.split:∀{x pre r:aA eO},dN x (pre++r)->∃p q,x=p++q/\dN p pre/\dN q r
 |x,[],r,h=>⟨[],x,rfl,trivial,h⟩
 |.mark::x,.mark::pre,r,h=>by
  obtain⟨p,q,rfl,h1,h2⟩:=dN.split (x:=x) (pre:=pre) (r:=r) h
  exact⟨.mark::p,q,rfl,h1,h2⟩
 |.ob i o::x,.ob j o'::pre,r,h=>by
  obtain⟨p,q,rfl,h1,h2⟩:=dN.split (x:=x) (pre:=pre) (r:=r) h.2
  exact⟨.ob i o::p,q,rfl,⟨h.1,h1⟩,h2⟩
 |[],.mark::_,_,h=>h.elim
 |[],.ob _ _::_,_,h=>h.elim
 |.mark::_,.ob _ _::_,_,h=>h.elim
 |.ob _ _::_,.mark::_,_,h=>h.elim
theorem dN.obs {n:Nat}:∀{p pre:aA eO},dN p pre->(∀e∈pre,∃i o,e=.ob i o/\n<=i)->∀e∈p,∃i o,e=.ob i o/\n<=i
 |[],[],_,_,e,he=>by simp at he
 |.mark::p,.mark::pre,h,hp,e,he=>by simp_all
 |.ob i o::p,.ob j o'::pre,h,hp,e,he=>by
  rcases kM2.1 he with rfl|he
  obtain⟨b,a,k,hk⟩:=hp (.ob j o') (by simp)
  cases k
  exact⟨i,o,rfl,by rw[h.1];exact hk⟩
  exact dN.obs h.2 (fun e he=>hp e (by simp[he])) e he
theorem Sk.refl (h:aA eO) (n:Nat):Sk h h n:=⟨[],h,rfl,.refl h,fun e he=>by simp at he⟩
theorem Sk.trans {a b c:aA eO} {n m:Nat} (h:Sk a b n) (k:Sk b c m) (g:n<=m):Sk a c n:=by
 obtain⟨p,r,rfl,h1,h2⟩:=h;obtain⟨q,r',rfl,f,i⟩:=k;obtain⟨x,y,rfl,d,e2⟩:=f.split;refine⟨q++x,y,by simp,e2.trans h1,fun e he=>?_⟩;rcases lA2.1 he with he|he
 grind
 exact d.obs h2 e he
theorem Sk.upd (h:aA eO) (id:Nat) (o:AO) (n:Nat):Sk h (upd h id o) n:=⟨[],_,rfl,.upd h id o,fun e he=>by simp at he⟩
theorem Sk.new (h:aA eO) (o:AO) (n:Nat):Sk h (.ob n o::h) n:=⟨[.ob n o],h,rfl,.refl h,fun e he=>by simp at he;exact⟨n,o,he,jR2 _⟩⟩
theorem wI {n:Nat}:∀{pre r:aA eO} {id:Nat},(∀e∈pre,∃i o,e=.ob i o/\n<=i)->id<n->Sim.look (pre++r) id=Sim.look r id
 |[],r,id,_,_=>rfl
 |e::pre,r,id,h,hid=>by
  obtain⟨i,o,rfl,hi⟩:=h e (by simp)
  simp only[mU2,Sim.look]
  rw[jU2 (by omega)]
  exact wI (fun e he=>h e (by simp[he])) hid
theorem Kp {n:Nat}:∀{pre r:aA eO},(∀e∈pre,∃i o,e=.ob i o/\n<=i)->∃a,Sim.popMark (pre++.mark::r)=a++r/\∀e∈a,∃i o,e=.ob i o/\n<=i
 |[],r,_=>⟨[],rfl,fun e he=>by simp at he⟩
 |e::pre,r,h=>by
  obtain⟨i,o,rfl,hi⟩:=h e (by simp)
  obtain⟨a,h1,h2⟩:=Kp (r:=r) (fun e he=>h e (mL2 _ he))
  have keep:∃b,eO.ob i o::Sim.popMark (pre++.mark::r)=b++r/\∀e∈b,∃i o,e=.ob i o/\n<=i:=
   ⟨.ob i o::a,by rw[h1];rfl,fun e he=>by
    rcases kM2.1 he with rfl|he
    exact⟨i,o,rfl,hi⟩
    exact h2 e he⟩
  simp only[mU2,Sim.popMark]
  split
  exact⟨a,h1,h2⟩
  exact keep
theorem Sk.pop {h h':aA eO} {n:Nat} (hs:Sk (.mark::h) h' n):Sk h (Sim.popMark h') n/\∀id,id<n->Sim.look (Sim.popMark h') id=Sim.look h' id:=by
 obtain⟨pre,r,rfl,h1,h2⟩:=hs
 match r,h1 with
 |.mark::r,h1=>
  obtain⟨b,d,c⟩:=Kp (r:=r) h2;rw[d];refine⟨⟨b,r,rfl,h1,c⟩,fun id a=>?_⟩;rw[wI c a,wI h2 a];rfl
end Go.P
namespace Go.P
open Go.Sim (AV AO Hp eO upd St IC IX Ex dQ CK Wf)
section
variable {R:Type}
theorem zI (x:Value) (K:Value->aB R):Ie x K=K x:=by cases x<;>rfl
theorem Rn (x:PV) (K:PV->aB R):fPV x K=K x:=by
 cases x<;>simp[fPV,zI]
theorem nV:∀(xs:aA PV) (K:aA PV->aB R),qH xs K=K xs
 |[],K=>rfl
 |x::xs,K=>by simp[qH,Rn,nV xs]
theorem dI1:∀(xs:aA PV) (K:aA PV->aB R),fV.fT xs K=K xs
 |[],K=>rfl
 |x::xs,K=>by
  have ih:=fun K=>dI1 xs (K:aA PV->aB R)
  cases x<;>simp[fV.fT,Rn,nV,ih]
theorem Kq (x:PV) (K:PV->aB R):fV x K=K x:=by
 cases x<;>simp[fV,zI,nV,dI1]
theorem bG {a b:Nat}:Nat.beq a b=decide (a=b):=by
 rw[Bool.eq_iff_iff];simp[Nat.beq_eq]
theorem eP:∀(e:dS) (i:Nat) (K:PV->aB R),mF e i K=(dK e i).bind K
 |[],_,_=>rfl
 |(j,v)::r,i,K=>by
  simp only[mF,dK,bG]
  by_cases h:j=i<;>simp[h,eP r i K]
theorem fP:∀(i:Nat) (a:aA Nat),yC i a=a.contains i
 |_,[]=>rfl
 |i,j::a=>by
  simp only[yC,bG,List.contains_cons,fP i a]
  by_cases h:i=j<;>simp[h]
def edel:dS->aA Nat->dS
 |[],_=>[]
 |(j,v)::r,is=>if j∈is then edel r is else(j,v)::edel r is
theorem dL:∀(e:dS) (is:aA Nat) (K:dS->aB R),gE e is K=K (edel e is)
 |[],_,_=>rfl
 |(j,v)::r,is,K=>by
  simp only[gE,fP,edel]
  by_cases h:j∈is
  simp[h,dL r is K]
  simp[h,dL r is]
theorem rZ:∀(e:dS) (is:aA Nat) (i:Nat),dK (edel e is) i=if i∈is then none else dK e i
 |[],is,i=>by simp[edel,dK]
 |(j,v)::r,is,i=>by
  have ih:=rZ r is i
  simp only[edel]
  by_cases h:j∈is
  rw[jX2 h,ih]
  by_cases h2:j=i
  subst h2;simp[h]
  simp[dK,h2]
  rw[jU2 h]
  by_cases h2:j=i
  subst h2;simp[dK,h]
  simp only[dK,jU2 h2,ih]
def evs (e:dS):aA PX->aB (aA PV)
 |[]=>some []
 |.t i::xs=>(dK e i).bind fun v=>(evs e xs).bind fun vs=>some (v::vs)
 |.c x::xs=>(evs e xs).bind fun vs=>some (x::vs)
theorem gF (e:dS):∀(xs:aA PX) (K:aA PV->aB R),mX e xs K=(evs e xs).bind K
 |[],K=>rfl
 |.t i::xs,K=>by
  simp only[mX,eP,evs,nC2]
  congr 1
  funext v
  rw[gF e xs]
  simp[nC2]
 |.c x::xs,K=>by
  simp only[mX,evs,nC2]
  rw[gF e xs]
  simp[nC2]
theorem lW:∀(n:Nat) (l:aA PV) (K:aA PV->aB R) (r:R),mY n l K=some r->n<=l.length/\K (l.take n)=some r
 |0,l,K,r,h=>⟨kS2 _,by simpa[mY]using h⟩
 |n+1,[],K,r,h=>by simp[mY]at h
 |n+1,a::as,K,r,h=>by
  simp only[mY]at h
  obtain⟨h1,h2⟩:=lW n as _ r h
  exact⟨by simp;omega,by simpa using h2⟩
theorem dG:∀(n:Nat) (l:aA PV) (K:aA PV->aB R) (r:R),fM n l K=some r->n<=l.length/\K (l.drop n)=some r
 |0,l,K,r,h=>⟨kS2 _,by simpa[fM]using h⟩
 |n+1,[],K,r,h=>by simp[fM]at h
 |n+1,a::as,K,r,h=>by
  simp only[fM]at h
  obtain⟨h1,h2⟩:=dG n as _ r h
  exact⟨by simp;omega,by simpa using h2⟩
theorem lA {α:Type} (a:α):∀(cs as:aA α) (n:Nat),Sim.setL (a::as) (n+1) cs=a::Sim.setL as n cs
 |[],as,n=>rfl
 |c::cs,as,n=>by simp only[Sim.setL,List.set_cons_succ];exact lA a cs _ _
theorem gR:∀(l:aA PV) (o:Nat) (cs:aA PV) (K:aA PV->aB R) (r:R),oX l o cs K=some r->o+cs.length<=l.length/\K (Sim.setL l o cs)=some r
 |l,0,[],K,r,h=>⟨by simp,by simpa[oX,Sim.setL]using h⟩
 |[],0,c::cs,K,r,h=>by simp[oX]at h
 |[],n+1,cs,K,r,h=>by simp[oX]at h
 |a::as,0,c::cs,K,r,h=>by
  simp only[oX]at h
  obtain⟨h1,h2⟩:=gR as 0 cs _ r h
  refine⟨by simp;omega,?_⟩
  simp only[Sim.setL,List.set_cons_zero]
  rw[lA]
  exact h2
 |a::as,n+1,cs,K,r,h=>by
  simp only[oX]at h
  obtain⟨h1,h2⟩:=gR as n cs _ r h
  exact⟨by simp;omega,by rw[lA];exact h2⟩
theorem dX:∀(h:aN) (k:Nat) (K:fG->aB R),hK h k K=(aK h k).bind K
 |[],_,_=>rfl
 |(j,v)::r,i,K=>by
  simp only[hK,aK,bG]
  by_cases h:j=i<;>simp[h,dX r i K]
def dW:aN->Nat->fG->aN
 |[],_,_=>[]
 |(j,v)::r,i,o=>if j=i then(j,o)::r else(j,v)::dW r i o
theorem dH:∀(h:aN) (k:Nat) (o:fG) (K:aN->aB R) (r:R),fO h k o K=some r->K (dW h k o)=some r
 |[],_,_,_,_,h=>by simp[fO]at h
 |(j,v)::t,i,o,K,r,h=>by
  simp only[fO,bG]at h
  by_cases e:j=i
  simp only[e,lL2,kD2]at h
  simp only[dW,e,kR2];exact h
  simp only[e,lV2,kQ2]at h
  simp only[dW,jU2 e]
  exact dH t i o _ r h
theorem eS:∀(h:aN) (k:Nat) (o:fG) (j:Nat),aK (dW h k o) j=if j=k/\(aK h k).isSome then some o else aK h j
 |[],k,o,j=>by simp[dW,aK]
 |(i,v)::r,k,o,j=>by
  have ih:=eS r k o j
  by_cases h1:i=k
  subst h1
  simp only[dW,kR2,aK]
  by_cases h2:i=j
  subst h2;simp
  grind
  simp only[dW,jU2 h1,aK]
  by_cases h2:i=j
  subst h2;simp[h1]
  grind
def dO:PV->aB (aA PV)
 |.agg cs=>some cs
 |.tup _=>none
 |.undef=>none
 |x=>some [x]
theorem jD (x:PV) (K:aA PV->aB R):kO x K=(dO x).bind K:=by cases x<;>rfl
theorem nD {C:Cx} {x:PV} {y:AV} {cs:aA PV} (h:RV C x y) (hc:dO x=some cs):∃cs',y.cells=some cs'/\LR (RV C) cs cs':=by
 have one:∀{z:PV} {w:AV},RV C z w->(∀l,w≠.agg l)->(∀l,w≠.tup l)->cs=[z]->∃cs',w.cells=some cs'/\LR (RV C) cs cs':=by
  intro z w f h1 h2 e;subst e;refine⟨[w],?_,.cons f .nil⟩;cases w<;>simp_all[AV.cells]
 cases h with
 |cl h=>
  cases h with
  |agg hl hc'=>simp[dO]at hc;subst hc;exact⟨_,rfl,hl,fun j x y a b=>.cl (hc' j x y a b)⟩
  |tup hl hc'=>simp[dO]at hc
  |v x=>exact one (.cl (.v x)) (by intro l e;cases e) (by intro l e;cases e) (by simpa[dO]using hc.symm)
  |is a b c=>exact one (.cl (.is a b c)) (by intro l e;cases e) (by intro l e;cases e) (by simpa[dO]using hc.symm)
  |isn=>exact one (.cl .isn) (by intro l e;cases e) (by intro l e;cases e) (by simpa[dO]using hc.symm)
  |ip a b=>exact one (.cl (.ip a b)) (by intro l e;cases e) (by intro l e;cases e) (by simpa[dO]using hc.symm)
  |im a b c=>exact one (.cl (.im a b c)) (by intro l e;cases e) (by intro l e;cases e) (by simpa[dO]using hc.symm)
  |fn a b c d=>exact one (.cl (.fn a b c d)) (by intro l e;cases e) (by intro l e;cases e) (by simpa[dO]using hc.symm)
 |undef=>simp[dO]at hc
 |agg hl hc'=>simp[dO]at hc;subst hc;exact⟨_,rfl,hl,hc'⟩
 |tup hl hc'=>simp[dO]at hc
 |ref h=>exact one (.ref h) (by intro l e;cases e) (by intro l e;cases e) (by simpa[dO]using hc.symm)
 |own h=>exact one (.own h) (by intro l e;cases e) (by intro l e;cases e) (by simpa[dO]using hc.symm)
 |ownn h hy=>subst hy;exact one (.ownn h rfl) (by intro l e;cases e) (by intro l e;cases e) (by simpa[dO]using hc.symm)
 |el h=>exact one (.el h) (by intro l e;cases e) (by intro l e;cases e) (by simpa[dO]using hc.symm)
 |map h=>exact one (.map h) (by intro l e;cases e) (by intro l e;cases e) (by simpa[dO]using hc.symm)
 |yld h=>exact one (.yld h) (by intro l e;cases e) (by intro l e;cases e) (by simpa[dO]using hc.symm)
 |fn a b c d=>exact one (.fn a b c d) (by intro l e;cases e) (by intro l e;cases e) (by simpa[dO]using hc.symm)
 |@zs d e rows y h=>
  refine one (.zs h) ?_ ?_ (by simpa[dO]using hc.symm);intro l e;subst e;cases d with
  |zero=>cases h
  |succ d=>rcases h with h|⟨_,_,_,_,_,_,_,h,_⟩<;>cases h
  intro l e;subst e;cases d with
  |zero=>cases h
  |succ d=>rcases h with h|⟨_,_,_,_,_,_,_,h,_⟩<;>cases h
 |zm h he=>exact one (.zm h he) (by intro l e;cases e) (by intro l e;cases e) (by simpa[dO]using hc.symm)
 |zm0=>exact one .zm0 (by intro l e;cases e) (by intro l e;cases e) (by simpa[dO]using hc.symm)
theorem Bb (a b:IntKind):kEq a b=decide (a=b):=by cases a<;>cases b<;>rfl
theorem LR.zero {C:Cx} (zero:aA Value):LR (RV C) (zero.map .v) (Sim.zeroRow zero):=by
 unfold Sim.zeroRow
 induction zero with
 |nil=>exact .nil
 |cons a as ih=>exact .cons (.cl (.v a)) ih
theorem LR.zeroP (zero:aA Value):LR (RC true) (zero.map .v) (Sim.zeroRow zero):=by
 unfold Sim.zeroRow
 induction zero with
 |nil=>exact .nil
 |cons a as ih=>exact .cons (.v a) ih
theorem RV.plain {C:Cx} {x:PV} {y:AV} (h:RV C x y) (hp:eF x=true):RC true x y:=by
 cases h with
 |cl h=>exact h.plain hp
 |_=>simp[eF]at hp
theorem LR.plain {C:Cx} {xs:aA PV} {ys:aA AV} (h:LR (RV C) xs ys) (hp:xs.all eF=true):LR (RC true) xs ys:=
 ⟨h.1,fun j x y a b=>(h.2 j x y a b).plain (jV2.1 hp x (kA2 a))⟩
theorem qQ (e:Nat):∀(xs:aA PV) (K:aA (aA PV)->aB R) (r:R),qM e xs K=some r->∃rows,K rows=some r/\rows.length=xs.length/\
  ∀(i:Nat) (x:PV),xs[i]? =some x->∃cs,dO x=some cs/\cs.length=e/\cs.all eF=true/\rows[i]? =some cs
 |[],K,r,h=>⟨[],h,rfl,fun i x d=>by simp at d⟩
 |x::xs,K,r,h=>by
  simp only[qM,jD,jN2]at h
  obtain⟨cs,a,h⟩:=h
  by_cases hc:(Nat.beq cs.length e&&cs.all eF)=true
  rw[hc,kD2]at h
  simp only[jO2,bG,jY2]at hc
  obtain⟨rows,h1,h2,b⟩:=qQ e xs _ r h
  refine⟨cs::rows,h1,by simp[h2],fun i y hy=>?_⟩
  cases i with
  |zero=>simp at hy;subst hy;exact⟨cs,a,hc.1,hc.2,rfl⟩
  |succ i=>simp at hy;obtain⟨c,f,g,j,k⟩:=b i y hy;exact⟨c,f,g,j,by simpa using k⟩
  grind
theorem zJ:∀(i:Nat) (a:aA Nat),My i a=true->a=List.range' i a.length
 |_,[],_=>rfl
 |i,j::a,h=>by
  simp only[My,bG]at h
  by_cases e:i=j
  simp only[e,lL2,kD2]at h
  subst e
  rw[lD2,List.range'_succ]
  congr 1
  exact zJ _ a h
  simp[e]at h
end
end Go.P
namespace Go.P
open Go.Sim (AV AO Hp eO upd St IC IX Ex dQ CK Wf Out doOp)
structure cA (C:Cx) (n:Nat) (h:aN) (lim:Nat) (s:Hp):Prop where
 hr:HR C h (Sim.look s.h) lim s.n
 dom:∀k pl,C k=some pl->k<n
 wf:Wf s.h s.n
 lim:lim<=s.n
def eE:fG->Bool
 |.lst ty _ _ _=>fE ty
 |.lz .. =>false
 |_=>true
structure Fr (C:Cx) (h:aN) (s:Hp) (C':Cx) (h':aN) (s':Hp):Prop where
 sk:Sk s.h s'.h s.n
 n:s.n<=s'.n
 keep:∀id,id<s.n->¬Own C h id->Sim.look s'.h id=Sim.look s.h id
 own:∀id,id<s.n->Own C' h' id->Own C h id
 kd:∀k o,aK h k=some o->∃o',aK h' k=some o'/\(eE o'=true->eE o=true/\C' k=C k)
 zl:∀id o,C.z id=some o->C'.z id=some o
 zn:∀id,id<s.n->C'.z id≠none->C.z id≠none\/Own C h id
theorem Fr.refl (C:Cx) (h:aN) (s:Hp):Fr C h s C h s:=⟨.refl _ _,jR2 _,fun _ _ _=>rfl,fun _ _ h=>h,fun k o h=>⟨o,h,fun hb=>⟨hb,rfl⟩⟩,fun _ _ h=>h,fun _ _ h=>.inl h⟩
theorem Fr.trans {C C' C'':Cx} {h h' d:aN} {s s' e:Hp} (a:Fr C h s C' h' s') (b:Fr C' h' s' C'' d e):Fr C h s C'' d e:=
  ⟨a.sk.trans b.sk a.n,kP2 a.n b.n,fun id c j=>by
    rw[b.keep id (lS2 c a.n) (fun g=>j (a.own id c g)),a.keep id c j],
   fun id c g=>a.own id c (b.own id (lS2 c a.n) g),
   fun k o hk=>by
    obtain⟨o',h1,h2⟩:=a.kd k o hk
    obtain⟨i,l,f⟩:=b.kd k o' h1
    exact⟨i,l,fun hb=>⟨(h2 (f hb).1).1,(f hb).2.trans (h2 (f hb).1).2⟩⟩,
   fun id o h=>b.zl id o (a.zl id o h),
   fun id c h=>by
    rcases b.zn id (lS2 c a.n) h with h1|h1
    exact a.zn id c h1
    exact .inr (a.own id c h1)⟩
def dP {R:Type} (C:Cx) (n:Nat) (h:aN) (lim:Nat) (s:Hp) (k:dQ) (ys:aA AV) (K:PV->aN->Nat->aB R) (r:R):Prop:=
 ∃v h' n' C' out,K v h' n'=some r/\doOp (Sim.look s.h) lim s.n k ys=some out/\RV C' v out.v/\cA C' n' h' lim (out.apply s)/\
  C.le C'/\n<=n'/\Fr C h s C' h' (out.apply s)/\(Ew k=false->∀id,id<s.n->Sim.look (out.apply s).h id=Sim.look s.h id)
section
variable {R:Type} {C:Cx} {n:Nat} {h:aN} {lim:Nat} {s:Hp} {k:dQ} {ys:List AV} {K:PV->aN->Nat->Option R} {r:R}
theorem bE (a:cA C n h lim s) {v:PV} {y:AV} (hd:doOp (Sim.look s.h) lim s.n k ys=some {v:=y}) (hv:RV C v y) (hK:K v h n=some r):dP C n h lim s k ys K r:=
 ⟨v,h,n,C,_,hK,hd,hv,a,.refl C,jR2 _,.refl _ _ _,fun _ _ _=>rfl⟩
theorem dM {h:aA eO} {n:Nat} {o:AO} {id:Nat}:Sim.look (.ob n o::h) id=if n=id then some o else Sim.look h id:=rfl
def ext (C:Cx) (n:Nat) (pl:Pl):Cx:=⟨fun k=>if k=n then some pl else C k,C.z⟩
theorem iO (a:cA C n h lim s) (pl:Pl):C.le (ext C n pl):=⟨fun k q hk=>by
 have:=a.dom k q hk
 simp only[ext]
 rw[jU2 (by omega)]
 exact hk,fun _ _ h=>h⟩
theorem iA.mono {C':Cx} {L L':Nat->aB AO} {nS m:Nat} {po:fG} {pl:Pl} (p:nS<=m) (n:C.le C') (l:∀id ver e len,pl=.atp id ver e len->L' id=L id) (c:iA C L lim nS po pl):iA C' L' lim m po pl:=by
 cases po with
 |box cells=>
  cases pl with
  |nil=>exact c
  |atp id ver e len=>
   obtain⟨h1,h2,ty,esz,row,d,h⟩:=c;exact⟨h1,by omega,ty,esz,row,by rw[l id ver e len rfl];exact d,h.mono (fun x y hv=>hv.mono n)⟩
 |lst ty e g rows=>
  cases pl with
  |nil=>exact c
  |atp id ver e' len=>
   obtain⟨h1,h2,d,h,els,j,k⟩:=c;exact⟨h1,by omega,d,h,els,by rw[l id ver e' len rfl];exact j,k⟩
 |lz ty e dp rows=>
  cases pl with
  |nil=>exact c
  |atp id ver e' len=>
   obtain⟨h1,h2,d,h,hf,els,j,k⟩:=c;exact⟨h1,by omega,d,h,hf,els,by rw[l id ver e' len rfl];exact j,k.mono n.2⟩
 |mp es=>
  cases pl with
  |nil=>exact c
  |atp id ver e len=>
   obtain⟨h1,h2,es',d,h⟩:=c;exact⟨h1,by omega,es',by rw[l id ver e len rfl];exact d,h⟩
 |fl fs=>
  cases pl with
  |nil=>exact c
  |atp id ver e len=>
   obtain⟨h1,h2,d,h,ty,els,j,k,o⟩:=c;exact⟨h1,by omega,d,h,ty,els,by rw[l id ver e len rfl];exact j,k,fun i f row a b=>(o i f row a b).mono (fun x y hv=>hv.mono n)⟩
 |loop N e ps a b busy fin=>
  cases pl with
  |nil=>exact c
  |atp id ver e' len=>
   obtain⟨h1,h2,st,pend,tmps,d,h,j,k⟩:=c;exact⟨h1,by omega,st,pend,tmps,by rw[l id ver e' len rfl];exact d,h,fun i v hv=>(j i v hv).imp fun y hy=>⟨hy.1,hy.2.mono n⟩,k⟩
theorem iA.lt {L:Nat->aB AO} {nS id ver e len:Nat} {po:fG} (c:iA C L lim nS po (.atp id ver e len)):lim<=id/\id<nS:=by
 cases po with
 |box cells=>exact⟨c.1,c.2.1⟩
 |lst ty e g rows=>exact⟨c.1,c.2.1⟩
 |lz ty e dp rows=>exact⟨c.1,c.2.1⟩
 |mp es=>exact⟨c.1,c.2.1⟩
 |fl fs=>exact⟨c.1,c.2.1⟩
 |loop N e ps a b busy fin=>exact⟨c.1,c.2.1⟩
theorem HR.lt {L:Nat->aB AO} {nS:Nat} (H:HR C h L lim nS) {k id ver e len:Nat} (hk:aK h k≠none) (a:C k=some (.atp id ver e len)):lim<=id/\id<nS:=by
 cases ho:aK h k with
 |none=>exact absurd ho hk
 |some po=>
  obtain⟨pl,h1,h2⟩:=H.ob k po ho;rw[a]at h1;cases h1;exact h2.lt
theorem Ro (a:cA C n h lim s) {k:Nat} (hk:n<=k):C k=none:=by
 cases hc:C k with
 |none=>rfl
 |some pl=>have:=a.dom k pl hc;omega
theorem sA (a:cA C n h lim s) {k:Nat} (hk:n<=k):aK h k=none:=by
 cases hc:aK h k with
 |none=>rfl
 |some po=>
  obtain⟨pl,h1,_⟩:=a.hr.ob k po hc;have:=a.dom k pl h1;omega
theorem dJ1 (b:cA C n h lim s) {po:fG} {pl:Pl}:∀k o,aK h k=some o->∃o',aK ((n,po)::h) k=some o'/\(eE o'=true->eE o=true/\ext C n pl k=C k):=fun k o hk=>by
 have a:n≠k:=fun e=>by rw[sA b (by omega)]at hk;cases hk
 exact⟨o,by simp[aK,a,hk],fun hb=>⟨hb,by simp[ext,Ne.symm a]⟩⟩
theorem nE (g:cA C n h lim s) {po:fG} {ao:AO} {ver e len:Nat} (z:iA (ext C n (.atp s.n ver e len)) (Sim.look (.ob s.n ao::s.h)) lim (s.n+1) po (.atp s.n ver e len)):
  cA (ext C n (.atp s.n ver e len)) (n+1) ((n,po)::h) lim {h:=.ob s.n ao::s.h,n:=s.n+1}/\Fr C h s (ext C n (.atp s.n ver e len)) ((n,po)::h) {h:=.ob s.n ao::s.h,n:=s.n+1}/\
  ∀id,id<s.n->Sim.look (.ob s.n ao::s.h) id=Sim.look s.h id:=by
 have p:=iO g (.atp s.n ver e len)
 have c:∀id,id<s.n->Sim.look (.ob s.n ao::s.h) id=Sim.look s.h id:=fun id i=>by
  rw[dM,jU2 (by omega)]
 have f:∀k,aK ((n,po)::h) k≠none->k≠n->aK h k≠none:=fun k hk j=>by
  simpa[aK,Ne.symm j]using hk
 have d:∀k q,k≠n->ext C n (.atp s.n ver e len) k=some q->C k=some q:=fun k q j hk=>by
  simpa[ext,j]using hk
 refine⟨⟨⟨fun k o hk=>?_,fun k k' id v1 m y v2 e2 B h1 h2 t u=>?_,fun id o A=>?_⟩,fun k pl hk=>?_,⟨by simp,g.wf⟩,by have:=g.lim;show lim<=s.n+1;omega⟩,⟨.new _ _ _,by simp,fun id i _=>c id i,fun id i w=>?_,dJ1 g,fun _ _ h=>h,fun _ _ h=>.inl h⟩,c⟩;simp only[aK]at hk;split at hk;rename_i m;subst m;cases hk;exact⟨_,by simp[ext],z⟩;obtain⟨pl,x,r⟩:=g.hr.ob k o hk;refine⟨pl,p.1 _ _ x,r.mono (by simp) p (fun id ver e len hp=>?_)⟩;subst hp;exact c id r.lt.2;by_cases a:k=n;by_cases b:k'=n;rw[a,b];exfalso;subst a;simp[ext]at t;have:=(g.hr.lt (f k' h2 b) (d k' _ b u)).2;omega;by_cases b:k'=n;exfalso;subst b;simp[ext]at u;have:=(g.hr.lt (f k h1 a) (d k _ a t)).2;omega;exact g.hr.inj k k' id v1 m y v2 e2 B (f k h1 a) (f k' h2 b) (d k _ a t) (d k' _ b u);obtain⟨z1,z2,z3,z4⟩:=g.hr.zr id o A;refine⟨(c id z2).trans z1,Nat.lt_succ_of_lt z2,fun k v e' l h1 h2=>?_,z4⟩;by_cases a:k=n;subst a;simp[ext]at h2;omega
 grind
 by_cases a:k=n;omega;have:=g.dom k pl (d k pl a hk);omega;obtain⟨k,v1,m,y,x,r⟩:=w;by_cases a:k=n;subst a;simp[ext]at r;omega;exact⟨k,v1,m,y,f k x a,d k _ a r⟩
theorem Nd (C:Cx) (L:Nat->aB AO) (lim nS ty e:Nat) (g:Bool):iA C L lim nS (kZ ty e g) .nil:=by
 unfold kZ;cases Nat.ble 4294967296 e<;>rfl
theorem Ik (d:cA C n h lim s) {ty e:Nat} {g:Bool}:cA (ext C n .nil) (n+1) ((n,kZ ty e g)::h) lim s/\Fr C h s (ext C n .nil) ((n,kZ ty e g)::h) s:=by
 have m:=iO d .nil
 have f:∀k,aK ((n,kZ ty e g)::h) k≠none->k≠n->aK h k≠none:=fun k hk i=>by
  simpa[aK,Ne.symm i]using hk
 have c:∀k q,k≠n->ext C n .nil k=some q->C k=some q:=fun k q i hk=>by
  simpa[ext,i]using hk
 refine⟨⟨⟨fun k o hk=>?_,fun k k' id v1 j w v2 e2 A h1 h2 x y=>?_,fun id o z=>?_⟩,fun k pl hk=>?_,d.wf,d.lim⟩,⟨.refl _ _,jR2 _,fun id r _=>rfl,fun id r t=>?_,dJ1 d,fun _ _ h=>h,fun _ _ h=>.inl h⟩⟩;simp only[aK]at hk;split at hk;rename_i j;subst j;cases hk;exact⟨.nil,by simp[ext],Nd ..⟩;obtain⟨pl,u,p⟩:=d.hr.ob k o hk;exact⟨pl,m.1 _ _ u,p.mono (jR2 _) m (fun _ _ _ _ _=>rfl)⟩;by_cases a:k=n;subst a;simp[ext]at x;by_cases b:k'=n;subst b;simp[ext]at y;exact d.hr.inj k k' id v1 j w v2 e2 A (f k h1 a) (f k' h2 b) (c k _ a x) (c k' _ b y);obtain⟨z1,z2,z3,z4⟩:=d.hr.zr id o z;refine⟨z1,z2,fun k v e' l h1 h2=>?_,z4⟩;by_cases a:k=n;subst a;simp[ext]at h2
 grind
 by_cases a:k=n;omega;have:=d.dom k pl (c k pl a hk);omega;obtain⟨k,v1,j,w,u,p⟩:=t;by_cases a:k=n;subst a;simp[ext]at p;exact⟨k,v1,j,w,f k u a,c k _ a p⟩
theorem pB (f:cA C n h lim s) {k id ver e len:Nat} {po po':fG} {ao:AO} (hk:aK h k=some po) (q:C k=some (.atp id ver e len))
  (B:iA C (Sim.look (upd s.h id ao)) lim s.n po' (.atp id ver e len)) (hb:eE po'=eE po):
  cA C n (dW h k po') lim {h:=upd s.h id ao,n:=s.n}/\Fr C h s C (dW h k po') {h:=upd s.h id ao,n:=s.n}:=by
 have g:∀j,aK (dW h k po') j=if j=k then some po' else aK h j:=fun j=>by
  rw[eS];simp[hk]
 have c:∀j,aK (dW h k po') j≠none->aK h j≠none:=fun j d=>by grind
 have a:∀j,j≠id->Sim.look (upd s.h id ao) j=Sim.look s.h j:=fun j d=>by
  rw[Sim.look_upd];simp[d]
 refine⟨⟨⟨fun j o d=>?_,fun j w i v1 b m v2 e2 A h1 h2 x y=>f.hr.inj j w i v1 b m v2 e2 A (c j h1) (c w h2) x y,fun i o z=>?_⟩,f.dom,f.wf.upd _ _,f.lim⟩,⟨.upd _ _ _ _,jR2 _,fun i hi t=>a i (fun b=>t ?_),fun i hi t=>?_,fun j o d=>?_,fun _ _ h=>h,fun _ _ h=>.inl h⟩⟩;rw[g]at d;split at d
 grind
 rename_i r;obtain⟨pl,p,u⟩:=f.hr.ob j o d;refine⟨pl,p,u.mono (jR2 _) (.refl C) (fun i v1 b m hp=>a i (fun e2=>r ?_))⟩;subst hp;subst e2;exact f.hr.inj j k i v1 b m ver e len (by rw[d];simp) (by rw[hk];simp) p q;obtain⟨z1,z2,z3,z4⟩:=f.hr.zr i o z;refine⟨(a i (fun b=>?_)).trans z1,z2,fun j v e' l h1 h2=>z3 j v e' l (c j h1) h2,z4⟩;subst b;exact z3 k ver e len (by rw[hk];simp) q;subst b;exact⟨k,ver,e,len,by rw[hk];simp,q⟩;obtain⟨j,v1,b,m,p,u⟩:=t;exact⟨j,v1,b,m,c j p,u⟩
 grind
end
end Go.P
namespace Go.P
open Go.Sim (AV AO Hp eO upd St IC IX Ex dQ CK Wf Out doOp)
section
variable {C:Cx} {y:AV}
theorem dY {x:Value} (h:RV C (.v x) y):y=.v x:=by cases h with|cl h=>cases h;rfl
theorem kP {cs:aA PV} (h:RV C (.agg cs) y):∃cs',y=.agg cs'/\LR (RV C) cs cs':=by
 cases h with
 |cl h=>cases h with|agg a b=>exact⟨_,rfl,a,fun j x y p q=>.cl (b j x y p q)⟩
 |agg a b=>exact⟨_,rfl,a,b⟩
theorem Il {cs:aA PV} (h:RV C (.tup cs) y):∃cs',y=.tup cs'/\LR (RV C) cs cs':=by
 cases h with
 |cl h=>cases h with|tup a b=>exact⟨_,rfl,a,fun j x y p q=>.cl (b j x y p q)⟩
 |tup a b=>exact⟨_,rfl,a,b⟩
theorem zK {cs:aA PV} (h:RV C (.ip cs) y):∃cs',y=.ip cs'/\LR (RC false) cs cs':=by
 cases h with
 |cl h=>cases h with|ip a b=>exact⟨_,rfl,a,b⟩
theorem Kr {e:Nat} {rows:aA (aA PV)} (h:RV C (.is e rows) y):(∃rows',y=.is e rows'/\RR rows rows')\/(rows=[]/\(y=.v (.slice none 0 0)\/y=.es)):=by
 cases h with
 |cl h=>cases h with
  |is a b c=>exact .inl ⟨_,rfl,.of_is a b c⟩
  |isn=>exact .inr ⟨rfl,.inl rfl⟩
theorem dK1 {es:aA (PV×PV)} (h:RV C (.im es) y):∃es',y=.im es'/\ER es es':=by
 cases h with
 |cl h=>cases h with|im a b c=>exact⟨_,rfl,a,fun j x y p q=>⟨b j x y p q,c j x y p q⟩⟩
theorem iP {k o:Nat} (h:RV C (.ref k o) y):∃id ver e len,C k=some (.atp id ver e len)/\y=.ptr id ver 0 o:=by
 cases h with
 |cl h=>cases h
 |ref h=>exact⟨_,_,_,_,h,rfl⟩
theorem gJ {k:Nat} (h:RV C (.own k) y):(∃id ver e len,C k=some (.atp id ver e len)/\y=.sl e id ver 0 len none)\/(C k=some .nil/\(y=.v (.slice none 0 0)\/y=.es)):=by
 cases h with
 |cl h=>cases h
 |own h=>exact .inl ⟨_,_,_,_,h,rfl⟩
 |ownn h hy=>exact .inr ⟨h,.inl hy⟩
theorem wJ {e:Nat} {rows:aA (aA PV)} (h:RV C (.is e rows) y):(∃rows',y=.is e rows'/\RR rows rows')\/(rows=[]/\y=.v (.slice none 0 0)):=by
 cases h with
 |cl h=>cases h with
  |is a b c=>exact .inl ⟨_,rfl,.of_is a b c⟩
  |isn=>exact .inr ⟨rfl,rfl⟩
theorem kE {k:Nat} (h:RV C (.own k) y):(∃id ver e len,C k=some (.atp id ver e len)/\y=.sl e id ver 0 len none)\/(C k=some .nil/\y=.v (.slice none 0 0)):=by
 cases h with
 |cl h=>cases h
 |own h=>exact .inl ⟨_,_,_,_,h,rfl⟩
 |ownn h hy=>exact .inr ⟨h,hy⟩
theorem wK {k i o:Nat} (h:RV C (.el k i o) y):∃id ver e len,C k=some (.atp id ver e len)/\y=.ptr id ver i o:=by
 cases h with
 |cl h=>cases h
 |el h=>exact⟨_,_,_,_,h,rfl⟩
theorem sB {k:Nat} (h:RV C (.map k) y):∃id ver e len,C k=some (.atp id ver e len)/\y=.map id:=by
 cases h with
 |cl h=>cases h
 |map h=>exact⟨_,_,_,_,h,rfl⟩
theorem Bc {k:Nat} (h:RV C (.yld k) y):∃id ver e len,C k=some (.atp id ver e len)/\y=.fn (.yield id) [] []:=by
 cases h with
 |cl h=>cases h
 |yld h=>exact⟨_,_,_,_,h,rfl⟩
theorem tN {f:FuncId} {a b:aA PV} (h:RV C (.fn f a b) y):∃a' b',y=.fn (.func f) a' b'/\LR (RV C) a a'/\LR (RV C) b b':=by
 cases h with
 |cl h=>cases h with|fn p q r s=>exact⟨_,_,rfl,⟨p,fun j x y h1 h2=>.cl (r j x y h1 h2)⟩,⟨q,fun j x y h1 h2=>.cl (s j x y h1 h2)⟩⟩
 |fn p q r s=>exact⟨_,_,rfl,⟨p,r⟩,⟨q,s⟩⟩
theorem LR.closed {xs:aA PV} {ys:aA AV} {p:Bool} (h:LR (RC p) xs ys):LR (RV C) xs ys:=h.mono fun _ _ h=>.cl h.weak
theorem sD {α:Type} {l:aA α} {o:Nat} {c:α} {t:aA α} (h:l.drop o=c::t):l[o]? =some c:=by
 have:=congrArg (fun l=>l[0]?) h;simpa[lG2]using this
end
section
variable {R:Type} {C:Cx} {n:Nat} {h:aN} {lim:Nat} {s:Hp} {k:dQ} {xs:List PV} {ys:List AV} {K:PV->aN->Nat->Option R} {r:R}
theorem kQ (C:Cx) (n:Nat) (pl:Pl):ext C n pl n=some pl:=jX2 rfl
theorem aD {A:Type} {a:A} {P:Prop} (h:(none:aB A)=some a):P:=by cases h
theorem fT1 (a:cA C n h lim s) (b:LR (RV C) xs ys) (hk:cM .mov xs h n K=some r):dP C n h lim s .mov ys K r:=by
 rcases xs with _|⟨x,_|⟨x2,t⟩⟩
 exact aD hk;have hk:K x h n=some r:=hk;obtain⟨y,_,rfl,h1,h2⟩:=b.inv_cons;rw[h2.inv_nil];exact bE a rfl h1 hk;exact aD hk
theorem Wq (c:cA C n h lim s) (d:LR (RV C) xs ys) (hk:cM .nilc xs h n K=some r):dP C n h lim s .nilc ys K r:=by
 rcases xs with _|⟨x,_|⟨x2,t⟩⟩
 exact aD hk;obtain⟨y,_,rfl,h1,h2⟩:=d.inv_cons;rw[h2.inv_nil];cases x with
 |ref k o=>obtain⟨id,ver,e,len,hc,rfl⟩:=iP h1;exact bE c rfl h1 hk
 |ip cs=>obtain⟨cs',rfl,_⟩:=zK h1;exact bE c rfl h1 hk
 |el k i o=>obtain⟨id,ver,e,len,hc,rfl⟩:=wK h1;exact bE c rfl h1 hk
 |fn f a b=>obtain⟨a',b',rfl,_⟩:=tN h1;exact bE c rfl h1 hk
 |yld k=>obtain⟨id,ver,e,len,hc,rfl⟩:=Bc h1;exact bE c rfl h1 hk
 |_=>exact aD hk
 exact aD hk
theorem fU1 {ty:TypeId} {size:Nat} (b:cA C n h lim s) (f:LR (RV C) xs ys) (hk:cM (.box ty size) xs h n K=some r):dP C n h lim s (.box ty size) ys K r:=by
 rcases xs with _|⟨x,_|⟨x2,t⟩⟩
 exact aD hk;have hk:kO x (fun cs=>bif Nat.beq cs.length size then(bif Nat.beq size 0 then none else K (.ref n 0) ((n,.box cs)::h) (n+1))else none)=some r:=hk;obtain⟨y,_,rfl,h1,h2⟩:=f.inv_cons;rw[h2.inv_nil];rw[jD,jN2]at hk;obtain⟨cs,c,hk⟩:=hk;obtain⟨cs',hc',hl⟩:=nD h1 c;rw[bG]at hk;by_cases d:cs.length=size;rw[kZ2 d,kD2,bG]at hk;by_cases e2:size=0
 grind
 rw[lH2 e2,kQ2]at hk;have a:=iO b (.atp s.n 0 size 1);obtain⟨g,i,j⟩:=nE b (po:=.box cs) (ao:=.arr true ty size 0 [cs']) (ver:=0) (e:=size) (len:=1) ⟨b.lim,by omega,ty,size,cs',by rw[dM,jX2 rfl],hl.mono (fun _ _ h=>h.mono a)⟩;refine⟨_,_,_,_,{v:=.ptr s.n 0 0 0,new:=some (.arr true ty size 0 [cs'])},hk,?_,.ref (kQ C n _),g,a,by omega,i,fun _=>j⟩;simp only[doOp,hc'];rw[jX2 ⟨by rw[<-hl.1];exact d,e2⟩]
 grind
 exact aD hk
theorem Rp {ty:TypeId} {zero:aA Value} (a:cA C n h lim s) (c:LR (RV C) xs ys) (hk:cM (.alloc ty zero) xs h n K=some r):dP C n h lim s (.alloc ty zero) ys K r:=by
 rcases xs with _|⟨x,t⟩
 have hk:qH (zero.map .v) (fun cs=>K (.ref n 0) ((n,.box cs)::h) (n+1))=some r:=hk;rw[nV]at hk;rw[c.inv_nil];have b:=iO a (.atp s.n 0 zero.length 1);obtain⟨d,f,g⟩:=nE a (po:=.box (zero.map .v)) (ao:=.arr true ty zero.length 0 [Sim.zeroRow zero]) (ver:=0) (e:=zero.length) (len:=1) ⟨a.lim,by omega,ty,zero.length,Sim.zeroRow zero,by rw[dM,jX2 rfl],LR.zero zero⟩;exact⟨_,_,_,_,{v:=.ptr s.n 0 0 0,new:=some (.arr true ty zero.length 0 [Sim.zeroRow zero])},hk,rfl,.ref (kQ C n _),d,b,by omega,f,fun _=>g⟩;exact aD hk
theorem wL:∀(cells:aA PV) (parts:aA (Nat×Nat)) (xs:aA PV) (K:aA PV->aB R) (r:R) (a ys:aA AV),Es cells parts xs K=some r->LR (RV C) cells a->LR (RV C) xs ys->
  ∃cs cs',K cs=some r/\Sim.fillParts a parts ys=some cs'/\LR (RV C) cs cs'
 |cells,[],[],K,r,a,ys,h,hl,hx=>by
  rw[hx.inv_nil]
  exact⟨cells,a,h,rfl,hl⟩
 |cells,(off,m)::ps,x::xs,K,r,a,ys,h,hl,hx=>by
  obtain⟨y,d,rfl,h1,h2⟩:=hx.inv_cons
  simp only[Es,jD,jN2]at h
  obtain⟨cs,c,h⟩:=h
  obtain⟨cs',hc',b⟩:=nD h1 c
  rw[bG]at h
  by_cases e:cs.length=m
  rw[kZ2 e,kD2]at h
  obtain⟨i,f⟩:=gR _ _ _ _ _ h
  obtain⟨q,g,q1,q2,q3⟩:=wL _ ps xs K r _ d f (hl.setL b off) h2
  refine⟨q,g,q1,?_,q3⟩
  simp only[Sim.fillParts,hc']
  rw[jX2 ⟨by rw[<-b.1];exact e,by rw[<-hl.1];omega⟩]
  exact q2
  grind
 |cells,[],_::_,K,r,a,ys,h,hl,hx=>aD h
 |cells,_::_,[],K,r,a,ys,h,hl,hx=>aD h
theorem Rq {zero:aA Value} {parts:aA (Nat×Nat)} (e:cA C n h lim s) (f:LR (RV C) xs ys) (hk:cM (.build zero parts) xs h n K=some r):dP C n h lim s (.build zero parts) ys K r:=by
 have hk:qH (zero.map .v) (fun cs=>Es cs parts xs fun cs=>K (.agg cs) h n)=some r:=by
  rcases xs with _|⟨a,_|⟨b,_|⟨c,t⟩⟩⟩<;>exact hk
 rw[nV]at hk;obtain⟨cs,cs',g,i,d⟩:=wL _ _ _ _ _ _ _ hk (LR.zero (C:=C) zero) f;refine bE e ?_ (.agg d.1 d.2) g;rcases ys with _|⟨a,_|⟨b,_|⟨c,t⟩⟩⟩<;>simp[doOp,i]
theorem pC (f:cA C n h lim s) {k id ver e len:Nat} {cs:aA PV} (hg:aK h k=some (.box cs)) (d:C k=some (.atp id ver e len)):lim<=id/\∃ty esz row,Sim.look s.h id=some (.arr true ty esz ver [row])/\LR (RV C) cs row:=by
 obtain⟨pl,h1,h2⟩:=f.hr.ob k _ hg;rw[d]at h1;cases h1;obtain⟨a,b,c⟩:=h2;exact⟨a,c⟩
theorem gZ (j:cA C n h lim s) {k id ver e len e2 ty:Nat} {g:Bool} {rows:aA (aA PV)} (hg:aK h k=some (.lst ty e2 g rows)) (i:C k=some (.atp id ver e len)):lim<=id/\e=e2/\len=rows.length/\∃els,Sim.look s.h id=some (.arr false (xU ty) e2 ver els)/\RR rows (els.take rows.length)/\rows.length<=els.length/\(g=false->els.length=rows.length):=by
 obtain⟨pl,h1,h2⟩:=j.hr.ob k _ hg;rw[i]at h1;cases h1;obtain⟨a,b,c,d,f⟩:=h2;exact⟨a,c,d,f⟩
theorem Rr (j:cA C n h lim s) {k id ver e len:Nat} {fs:aA PV} (hg:aK h k=some (.fl fs)) (g:C k=some (.atp id ver e len)):lim<=id/\e=1/\len=fs.length/\∃ty els,Sim.look s.h id=some (.arr false ty 1 ver els)/\els.length=fs.length/\∀(i:Nat) (f:PV) (row:aA AV),fs[i]? =some f->els[i]? =some row->LR (RV C) [f] row:=by
 obtain⟨pl,h1,h2⟩:=j.hr.ob k _ hg;rw[g]at h1;cases h1;obtain⟨a,b,c,d,f⟩:=h2;exact⟨a,c,d,f⟩
theorem Rs (b:cA C n h lim s) {k:Nat} {fs:aA PV} (hg:aK h k=some (.fl fs)) (a:C k=some .nil):False:=by
 obtain⟨pl,h1,h2⟩:=b.hr.ob k _ hg;rw[a]at h1;cases h1;exact h2
theorem iX (b:cA C n h lim s) {k e2 ty:Nat} {g:Bool} {rows:aA (aA PV)} (hg:aK h k=some (.lst ty e2 g rows)) (a:C k=some .nil):rows=[]:=by
 obtain⟨pl,h1,h2⟩:=b.hr.ob k _ hg;rw[a]at h1;cases h1;exact h2
theorem Fa (f:cA C n h lim s) {k id ver e len:Nat} {es:aA (PV×PV)} (hg:aK h k=some (.mp es)) (d:C k=some (.atp id ver e len)):lim<=id/\∃es',Sim.look s.h id=some (.map es')/\EM es es':=by
 obtain⟨pl,h1,h2⟩:=f.hr.ob k _ hg;rw[d]at h1;cases h1;obtain⟨a,b,c⟩:=h2;exact⟨a,c⟩
theorem zL {y:AV} {d e:Nat} {rows:aA (aA PV)} (h:RV C (.zs d e rows) y):RZ C.z d (.is e rows) y:=by
 cases h with
 |cl h=>cases h
 |zs h=>exact h
theorem dL1 {y:AV} {es:aA (PV×PV)} (h:RV C (.zm es) y):(∃id es',y=.map id/\C.z id=some (.map es')/\EM es es')\/(es=[]/\y=.v (.map none)):=by
 cases h with
 |cl h=>cases h
 |zm h he=>exact .inl ⟨_,_,rfl,h,he⟩
 |zm0=>exact .inr ⟨rfl,rfl⟩
theorem tO (b:cA C n h lim s) {k id ver e len e2 ty dp:Nat} {rows:aA (aA PV)} (hg:aK h k=some (.lz ty e2 dp rows)) (a:C k=some (.atp id ver e len)):lim<=id/\id<s.n/\e=e2/\len=rows.length/\fE ty=false/\∃els,Sim.look s.h id=some (.arr false ty e2 ver els)/\zH C.z dp rows els:=by
 obtain⟨pl,h1,h2⟩:=b.hr.ob k _ hg;rw[a]at h1;cases h1;exact h2
theorem sF (b:cA C n h lim s) {k e2 ty dp:Nat} {rows:aA (aA PV)} (hg:aK h k=some (.lz ty e2 dp rows)) (a:C k=some .nil):rows=[]:=by
 obtain⟨pl,h1,h2⟩:=b.hr.ob k _ hg;rw[a]at h1;cases h1;exact h2
theorem dM1 {p:Bool} {e:Nat} {rows:aA (aA PV)} {y:AV} (h:RC p (.is e rows) y):(∃rows',y=.is e rows'/\RR rows rows')\/(rows=[]/\y=.v (.slice none 0 0)):=by
 cases h with
 |is a b c=>exact .inl ⟨_,rfl,.of_is a b c⟩
 |isn=>exact .inr ⟨rfl,rfl⟩
theorem zM {z:Nat->aB AO} {d e:Nat} {rows:aA (aA PV)} {y:AV} (h:RZ z d (.is e rows) y):
  ((∃rows',y=.is e rows'/\RR rows rows')\/(rows=[]/\y=.v (.slice none 0 0)))\/∃c id ver ty els,d=c+1/\y=.sl e id ver 0 rows.length none/\z id=some (.arr false ty e ver els)/\rows.length<=els.length/\zH z c rows (els.take rows.length):=by
 cases d with
 |zero=>exact .inl (dM1 h)
 |succ d=>
  rcases h with h|⟨e',rows',id,ver,ty,els,h1,h2,h3,h4,h5⟩
  exact .inl (dM1 h);cases h1;refine .inr ⟨d,id,ver,ty,els,rfl,h2,h3,h4,by simp[Nat.min_eq_left h4],fun i r r' a b=>h5 i r r' a ?_⟩;rw[kY2]at b;split at b;exact b;cases b
theorem Im {rows:aA (aA PV)} {els:aA (aA AV)} (hr:RR rows (els.take rows.length)) {i:Nat} {row:aA PV} (hi:rows[i]? =some row):∃a,els[i]? =some a/\LR (RC true) row a:=by
 obtain⟨a,h1,h2⟩:=hr.get hi;have b:i<rows.length:=(jP2.1 hi).1;rw[kY2,jX2 b]at h1;exact⟨a,h1,h2⟩
def zN (C:Cx) (n:Nat) (h:aN) (s:Hp) (k:dQ) (ys:aA AV) (K:PV->aN->Nat->aB R) (r:R):Prop:=∃v y,(∀lim nS,doOp (Sim.look s.h) lim nS k ys=some {v:=y})/\RV C v y/\K v h n=some r
theorem wM {k:dQ} {v:PV} {y:AV} (hd:∀lim nS,doOp (Sim.look s.h) lim nS k ys=some {v:=y}) (hv:RV C v y) (hK:K v h n=some r):zN C n h s k ys K r:=⟨v,y,hd,hv,hK⟩
theorem zN.step (d:cA C n h lim s) {k:dQ} (h1:zN C n h s k ys K r):dP C n h lim s k ys K r:=by
 obtain⟨v,y,a,b,c⟩:=h1;exact bE d (a _ _) b c
theorem wN (l:cA C n h lim s) (B:LR (RV C) xs ys) (hk:cM .loadS xs h n K=some r):zN C n h s .loadS ys K r:=by
 rcases xs with _|⟨x,_|⟨x2,t⟩⟩
 exact aD hk;obtain⟨y,_,rfl,h1,h2⟩:=B.inv_cons;rw[h2.inv_nil];cases x with
 |ref k o=>
  have hk:hK h k (fun ob=>match ob with
   |.box cs=>fM o cs fun cs=>match cs with
    |c::_=>K c h n
    |[]=>none
   |_=>none)=some r:=hk
  rw[dX,jN2]at hk;obtain⟨ob,hg,hk⟩:=hk;cases ob with
  |box cs=>
   obtain⟨D,a⟩:=dG _ _ _ _ hk;obtain⟨id,ver,e,len,d,rfl⟩:=iP h1;obtain⟨_,ty,esz,row,j,hl⟩:=pC l hg d;cases hd:cs.drop o with
   |nil=>rw[hd]at a;exact aD a
   |cons c t=>
    rw[hd]at a;obtain⟨y,hy,hv⟩:=hl.get (sD hd);exact wM (fun lim nS=>by simp[doOp,j,hy]) hv a
  |_=>exact aD hk
 |ip cs=>
  obtain⟨cs',rfl,hl⟩:=zK h1;cases cs with
  |nil=>exact aD hk
  |cons c t=>
   obtain⟨y,q,rfl,hv,_⟩:=hl.inv_cons;exact wM (fun _ _=>rfl) (.cl hv) hk
 |el k i o=>
  have hk:hK h k (fun ob=>match ob with
   |.lst _ _ _ rows=>bS (wB rows i o) fun c=>K c h n
   |.fl fs=>bif Nat.beq o 0 then(fM i fs fun fs=>match fs with
    |f::_=>K f h n
    |[]=>none)else none
   |_=>none)=some r:=hk
  rw[dX,jN2]at hk;obtain⟨ob,hg,hk⟩:=hk;cases ob with
  |lst ty e2 g rows=>
   simp only[bL,jN2,wB]at hk;obtain⟨c,⟨row,hi,A⟩,hk⟩:=hk;obtain⟨id,ver,e,len,d,rfl⟩:=wK h1;obtain⟨_,rfl,_,els,j,hr,_⟩:=gZ l hg d;obtain⟨u,m,hl⟩:=Im hr hi;obtain⟨y,hy,hv⟩:=hl.get A;exact wM (fun lim nS=>by simp[doOp,j,m,hy]) (.cl hv.weak) hk
  |fl fs=>
   simp only[bG]at hk;by_cases v:o=0;subst v;rw[kZ2 rfl,kD2]at hk;obtain⟨D,a⟩:=dG _ _ _ _ hk;obtain⟨id,ver,e,len,d,rfl⟩:=wK h1;obtain⟨_,_,_,ty,els,j,hlen,hr⟩:=Rr l hg d;cases hd:fs.drop i with
   |nil=>rw[hd]at a;exact aD a
   |cons c t=>
    rw[hd]at a;have hi:=sD hd;have w:=(jP2.1 hi).1;obtain⟨y,q,b,hv,z⟩:=(hr i c (els[i]'(by omega)) hi (by simp)).inv_cons;rw[z.inv_nil]at b;have p:els[i]? =some [y]:=by rw[<-b];simp
    exact wM (fun lim nS=>by simp[doOp,j,p]) hv a
   grind
  |_=>exact aD hk
 |_=>exact aD hk
 exact aD hk
theorem wO {m:Nat} (w:cA C n h lim s) (B:LR (RV C) xs ys) (hk:cM (.loadA m) xs h n K=some r):zN C n h s (.loadA m) ys K r:=by
 rcases xs with _|⟨x,_|⟨x2,t⟩⟩
 exact aD hk;obtain⟨y,_,rfl,h1,h2⟩:=B.inv_cons;rw[h2.inv_nil];cases x with
 |ref k o=>
  have hk:hK h k (fun ob=>match ob with
   |.box cs=>fM o cs fun cs=>mY m cs fun cs=>K (.agg cs) h n
   |_=>none)=some r:=hk
  rw[dX,jN2]at hk;obtain⟨ob,hg,hk⟩:=hk;cases ob with
  |box cs=>
   obtain⟨E,D⟩:=dG _ _ _ _ hk;obtain⟨u,v⟩:=lW _ _ _ _ D;obtain⟨id,ver,e,len,f,rfl⟩:=iP h1;obtain⟨_,ty,esz,row,l,hl⟩:=pC w hg f;have hlen:=hl.1;simp only[List.length_drop]at u;have d:=(hl.drop o).take m;exact wM (fun lim nS=>by simp[doOp,l];omega) (.agg d.1 d.2) v
  |_=>exact aD hk
 |ip cs=>
  obtain⟨cs',rfl,hl⟩:=zK h1;have hk:mY m cs (fun cs=>K (.agg cs) h n)=some r:=hk;obtain⟨u,v⟩:=lW _ _ _ _ hk;have d:=hl.take m;refine wM (fun lim nS=>?_) (.cl (.agg d.1 d.2)) v;simp only[doOp];rw[jX2 (by rw[<-hl.1];exact u)]
 |el k i o=>
  have hk:hK h k (fun ob=>match ob with
   |.lst _ _ _ rows=>bS (qJ rows i o m) fun cs=>K (.agg cs) h n
   |_=>none)=some r:=hk
  rw[dX,jN2]at hk;obtain⟨ob,hg,hk⟩:=hk;cases ob with
  |lst ty e2 g rows=>
   simp only[bL,jN2,qJ]at hk;obtain⟨c,⟨row,hi,q⟩,hk⟩:=hk;split at q;rename_i A;cases q;obtain⟨id,ver,e,len,f,rfl⟩:=wK h1;obtain⟨_,rfl,_,els,l,hr,_⟩:=gZ w hg f;obtain⟨z,p,hl⟩:=Im hr hi;have d:=(hl.drop o).take m;have hlen:=hl.1;exact wM (fun lim nS=>by simp[doOp,l,p];omega) (.cl (.agg d.1 fun j x y a b=>(d.2 j x y a b).weak)) hk;cases q
  |_=>exact aD hk
 |_=>exact aD hk
 exact aD hk
theorem Rt (a:cA C n h lim s) (b:LR (RV C) xs ys) (hk:cM .loadS xs h n K=some r):dP C n h lim s .loadS ys K r:=(wN a b hk).step a
theorem Ru {m:Nat} (a:cA C n h lim s) (b:LR (RV C) xs ys) (hk:cM (.loadA m) xs h n K=some r):dP C n h lim s (.loadA m) ys K r:=(wO a b hk).step a
theorem Rv {m:Nat} (y:cA C n h lim s) (S:LR (RV C) xs ys) (hk:cM (.store m) xs h n K=some r):dP C n h lim s (.store m) ys K r:=by
 rcases xs with _|⟨p,_|⟨x,_|⟨x2,t⟩⟩⟩
 exact aD hk;exact aD hk;obtain⟨V,_,rfl,h1,h2⟩:=S.inv_cons;obtain⟨W,_,rfl,N,P⟩:=h2.inv_cons;rw[P.inv_nil];cases p with
 |ref k o=>
  have hk:hK h k (fun ob=>match ob with
   |.box cs=>kO x fun ys=>bif Nat.beq ys.length m then oX cs o ys fun cs=>fO h k (.box cs) fun h=>K .undef h n else none
   |_=>none)=some r:=hk
  rw[dX,jN2]at hk;obtain⟨ob,hg,hk⟩:=hk;cases ob with
  |box cs=>
   simp only[jD,jN2]at hk;obtain⟨zs,w,hk⟩:=hk;obtain⟨c,u,d⟩:=nD N w;rw[bG]at hk;by_cases M:zs.length=m;rw[kZ2 M,kD2]at hk;obtain⟨U,T⟩:=gR _ _ _ _ _ hk;have G:=dH _ _ _ _ _ T;obtain⟨id,ver,e,len,j,rfl⟩:=iP h1;obtain⟨b,ty,esz,row,z,hl⟩:=pC y hg j;have l:=(y.hr.lt (by rw[hg];simp) j).2;obtain⟨H,J⟩:=pB y (po':=.box (Sim.setL cs o zs)) (ao:=.arr true ty esz ver [Sim.setL row o c]) hg j ⟨b,l,ty,esz,_,by rw[Sim.look_upd];simp[z],hl.setL d o⟩ rfl;have hlen:=hl.1;have q:=d.1;refine⟨_,_,_,_,{v:=.undef,up:=some (id,.arr true ty esz ver [Sim.setL row o c])},G,?_,.undef,H,.refl _,jR2 _,J,fun he=>by cases he⟩;simp only[doOp,u,z];rw[jX2 ⟨by trivial,b,by omega⟩];simp only[mC2];rw[jX2 (by omega)];rfl;rw[lH2 M]at hk;exact aD hk
  |_=>exact aD hk
 |el k i o=>
  have hk:hK h k (fun ob=>match ob with
   |.lst ty e g rows=>kO x fun ys=>bif Nat.beq ys.length m&&ys.all eF then bS (wA rows i o ys) fun rows=>fO h k (.lst ty e g rows) fun h=>K .undef h n else none
   |_=>none)=some r:=hk
  rw[dX,jN2]at hk;obtain⟨ob,hg,hk⟩:=hk;cases ob with
  |lst ty e2 g rows=>
   simp only[jD,jN2]at hk;obtain⟨zs,w,hk⟩:=hk;obtain⟨c,u,d⟩:=nD N w;by_cases hc:(Nat.beq zs.length m&&zs.all eF)=true;rw[hc,kD2,bL,jN2]at hk;simp only[jO2,bG,jY2]at hc;obtain⟨L,a,hk⟩:=hk;have G:=dH _ _ _ _ _ hk;unfold wA at a;split at a;rename_i row hi;split at a;rename_i R;cases a;obtain⟨id,ver,e,len,j,rfl⟩:=wK h1;obtain⟨b,rfl,hlen,els,z,hr,A,B⟩:=gZ y hg j;have l:=(y.hr.lt (by rw[hg];simp) j).2;obtain⟨f,D,hl⟩:=Im hr hi;have O:i<rows.length:=(jP2.1 hi).1;have F:=d.plain hc.2
   obtain⟨H,J⟩:=pB y (po':=.lst ty e g (rows.set i (Sim.setL row o zs))) (ao:=.arr false (xU ty) e ver (els.set i (Sim.setL f o c))) hg j
    ⟨b,l,rfl,by simpa using hlen,els.set i (Sim.setL f o c),by rw[Sim.look_upd];simp[z],by
     rw[List.length_set,List.take_set];exact hr.set (hl.setL F o) i,by simpa using A,by simpa using B⟩ rfl
   have E:=hl.1;have q:=d.1;refine⟨_,_,_,_,{v:=.undef,up:=some (id,.arr false (xU ty) e ver (els.set i (Sim.setL f o c)))},G,?_,.undef,H,.refl _,jR2 _,J,fun he=>by cases he⟩;simp only[doOp,u,z];rw[jX2 ⟨by trivial,b,by omega⟩,D];simp only;rw[jX2 (by omega)];cases a;cases a;simp only[Bool.not_eq_true]at hc;rw[hc]at hk;exact aD hk
  |_=>exact aD hk
 |_=>exact aD hk
 exact aD hk
theorem fV1 {off:Nat} (b:cA C n h lim s) (d:LR (RV C) xs ys) (hk:cM (.fad off) xs h n K=some r):dP C n h lim s (.fad off) ys K r:=by
 rcases xs with _|⟨x,_|⟨x2,t⟩⟩
 exact aD hk;obtain⟨y,_,rfl,h1,h2⟩:=d.inv_cons;rw[h2.inv_nil];cases x with
 |ref k o=>
  obtain⟨id,ver,e,len,a,rfl⟩:=iP h1;exact bE b rfl (.ref a) hk
 |ip cs=>
  have hk:fM off cs (fun cs=>K (.ip cs) h n)=some r:=hk;obtain⟨g,f⟩:=dG _ _ _ _ hk;obtain⟨cs',rfl,hl⟩:=zK h1;have c:=hl.drop off;exact bE b rfl (.cl (.ip c.1 c.2)) f
 |el k i o=>
  obtain⟨id,ver,e,len,a,rfl⟩:=wK h1;exact bE b rfl (.el a) hk
 |_=>exact aD hk
 exact aD hk
end
end Go.P
namespace Go.P
open Go.Sim (AV AO Hp eO upd St IC IX Ex dQ CK Wf Out doOp)
section
variable {R:Type} {C:Cx} {n:Nat} {h:aN} {lim:Nat} {s:Hp} {k:dQ} {xs:List PV} {ys:List AV} {K:PV->aN->Nat->Option R} {r:R}
theorem fW1 {e:Nat} (f:cA C n h lim s) (B:LR (RV C) xs ys) (hk:cM (.iad e) xs h n K=some r):dP C n h lim s (.iad e) ys K r:=by
 rcases xs with _|⟨x,_|⟨i,_|⟨x2,t⟩⟩⟩
 exact aD hk;exact aD hk;obtain⟨D,_,rfl,h1,h2⟩:=B.inv_cons;obtain⟨E,_,rfl,z,A⟩:=h2.inv_cons;rw[A.inv_nil];cases i with
 |v iv=>
  cases iv with
  |int kk i=>
   rw[dY z];cases x with
   |is e' rows=>
    have hk:(bif Nat.beq e' e then bS (rW rows i) (fun row=>K (.ip row) h n)else none)=some r:=hk;rw[bG]at hk;by_cases l:e'=e;subst l;simp only[lL2,kD2,bL,jN2,rW]at hk;obtain⟨row,c,hk⟩:=hk;split at c;rename_i h0;rcases Kr h1 with⟨rows',rfl,hr⟩|⟨rfl,_⟩
    obtain⟨u,q,hl⟩:=hr.get c;exact bE f (by simp[doOp,Sim.intOf,h0,q]) (.cl (.ip hl.1 fun j x y a b=>(hl.2 j x y a b).weak)) hk;simp at c;cases c
    grind
   |own k=>
    have hk:hK h k (fun ob=>match ob with
     |.lst _ e' _ rows=>bif Nat.beq e' e then bS (qI rows.length i) (fun i=>K (.el k i 0) h n)else none
     |.fl fs=>bif Nat.beq e 1 then Wo i (fun i=>bif Nat.blt i fs.length then K (.el k i 0) h n else none)else none
     |_=>none)=some r:=hk
    rw[dX,jN2]at hk;obtain⟨ob,hg,hk⟩:=hk;cases ob with
    |lst ty e2 g rows=>
     simp only[bG]at hk;by_cases l:e2=e;subst l;simp only[lL2,kD2,bL,jN2,qI]at hk;obtain⟨m,p,o⟩:=hk;split at p;rename_i h0;cases p;rcases gJ h1 with⟨id,ver,w,len,d,rfl⟩|⟨d,_⟩
     obtain⟨_,rfl,hlen,_⟩:=gZ f hg d;refine bE (v:=.el k i.toNat 0) (y:=.ptr id ver i.toNat 0) f ?_ (.el d) o;simp only[doOp,Sim.intOf];rw[jX2 ⟨by trivial,h0.1,by omega⟩,lN2];have:=iX f hg d;subst this;simp at h0;omega;cases p
     grind
    |fl fs=>
     simp only[bG]at hk;by_cases l:e=1;subst l;rw[kZ2 rfl,kD2]at hk;cases i with
     |negSucc m=>exact aD hk
     |ofNat m=>
      cases hlt:Nat.blt m fs.length with
      |false=>simp only[Wo,hlt,kQ2]at hk;exact aD hk
      |true=>
       simp only[Wo,hlt,kD2]at hk;rw[lW2]at hlt;rcases gJ h1 with⟨id,ver,w,len,d,rfl⟩|⟨d,_⟩
       obtain⟨_,rfl,hlen,_⟩:=Rr f hg d;refine bE (v:=.el k m 0) (y:=.ptr id ver m 0) f ?_ (.el d) hk;simp only[doOp,Sim.intOf];rw[jX2 ⟨by trivial,by simp,by simp;omega⟩,lN2];rfl;exact(Rs f hg d).elim
     grind
    |_=>exact aD hk
   |_=>exact aD hk
  |_=>exact aD hk
 |_=>exact aD hk
 exact aD hk
theorem Nf (e:cA C n h lim s) (f:LR (RV C) xs ys) (hk:cM .idxStr xs h n K=some r):dP C n h lim s .idxStr ys K r:=by
 rcases xs with _|⟨x,_|⟨i,_|⟨x2,t⟩⟩⟩
 exact aD hk;exact aD hk;obtain⟨j,_,rfl,h1,h2⟩:=f.inv_cons;obtain⟨k,_,rfl,c,d⟩:=h2.inv_cons;rw[d.inv_nil];cases x with
 |v xv=>
  cases xv with
  |string b=>
   cases i with
   |v iv=>
    cases iv with
    |int kk i=>
     rw[dY h1,dY c];have hk:bS (mZ b i) (fun b=>K (.v (.int .u8 b)) h n)=some r:=hk;simp only[bL,jN2,mZ]at hk;obtain⟨m,a,hk⟩:=hk;split at a;rename_i h0;simp only[jQ2]at a;obtain⟨g,hb,rfl⟩:=a;refine bE e ?_ (.cl (.v _)) hk;simp only[doOp,Sim.intOf];rw[jX2 h0,hb];cases a
    |_=>exact aD hk
   |_=>exact aD hk
  |_=>cases i with
   |v iv=>cases iv<;>exact aD hk
   |_=>exact aD hk
 |_=>cases i with
  |v iv=>cases iv<;>exact aD hk
  |_=>exact aD hk
 exact aD hk
theorem Wr {len e:Nat} {agg:Bool} (b:cA C n h lim s) (j:LR (RV C) xs ys) (hk:cM (.idxA len e agg) xs h n K=some r):dP C n h lim s (.idxA len e agg) ys K r:=by
 rcases xs with _|⟨x,_|⟨i,_|⟨x2,t⟩⟩⟩
 exact aD hk;exact aD hk;obtain⟨k,_,rfl,h1,h2⟩:=j.inv_cons;obtain⟨l,_,rfl,f,g⟩:=h2.inv_cons;rw[g.inv_nil];cases x with
 |agg cs=>
  obtain⟨cs',rfl,hl⟩:=kP h1;cases i with
  |v iv=>
   cases iv with
   |int kk i=>
    rw[dY f];have hk:(bif agg then bS (nA cs i len e) (fun cs=>K (.agg cs) h n)else bS (qK cs i len e) fun c=>K c h n)=some r:=hk;cases agg with
    |true=>
     simp only[kD2,bL,jN2,nA]at hk;obtain⟨q,a,hk⟩:=hk;split at a;rename_i h0;cases a;have d:=(hl.drop (i.toNat*e)).take e;refine bE b ?_ (.agg d.1 d.2) hk;simp only[doOp,Sim.intOf];rw[jX2 ⟨h0.1,h0.2.1⟩];rfl;cases a
    |false=>
     simp only[kQ2,bL,jN2,qK]at hk;obtain⟨q,a,hk⟩:=hk;split at a;rename_i h0;obtain⟨y,hy,hv⟩:=hl.get a;refine bE b ?_ hv hk;simp only[doOp,Sim.intOf];rw[jX2 h0];simp[hy];cases a
   |_=>exact aD hk
  |_=>exact aD hk
 |_=>cases i with
  |v iv=>cases iv<;>exact aD hk
  |_=>exact aD hk
 exact aD hk
theorem Ng {op:BinOp} {x y:PV} {K:PV->aB R} {r:R} (hk:fP1 op x y K=some r):∃a b c,x=.v a/\y=.v b/\Sim.binS op a b=some c/\K (.v c)=some r:=by
 cases x with
 |v a=>
  cases y with
  |v b=>
   cases a with
   |int k a=>
    cases b with
    |int k' b=>
     have key:∀{z:aB R} {w:aB Value},(op≠.shl/\op≠.shr)->(fP1 op (.v (.int k a)) (.v (.int k' b)) K=bif kEq k k' then z else none)->(Sim.binS op (.int k a) (.int k' b)=if k=k' then w else none)->(z=some r->∃c,w=some c/\K (.v c)=some r)->∃a' b' c,PV.v (.int k a)=.v a'/\PV.v (.int k' b)=.v b'/\Sim.binS op a' b'=some c/\K (.v c)=some r:=by
      intro z w _ f e2 g;rw[f,Bb]at hk;by_cases e:k=k'
      .rw [kZ2 e,kD2]at hk
       obtain⟨c,i,j⟩:=g hk;exact⟨_,_,c,rfl,rfl,by rw[e2,jX2 e];exact i,j⟩
      .rw [lH2 e]at hk;exact aD hk
     cases op
     case shl=>
      have hk:bS (if b<0 then none else some (k.wrap (a*2^min b.toNat k.bits))) (fun r=>K (.v (.int k r)))=some r:=hk;simp only[bL,jN2]at hk;obtain⟨q,d,hk⟩:=hk;split at d
      .cases d
      .rename_i h0
       cases d;exact⟨_,_,_,rfl,rfl,by simp only[Sim.binS];rw[jU2 h0],hk⟩
     case shr=>
      have hk:bS (if b<0 then none else some (a.fdiv (2^min b.toNat k.bits))) (fun r=>K (.v (.int k r)))=some r:=hk;simp only[bL,jN2]at hk;obtain⟨q,d,hk⟩:=hk;split at d
      .cases d
      .rename_i h0
       cases d;exact⟨_,_,_,rfl,rfl,by simp only[Sim.binS];rw[jU2 h0],hk⟩
     case add=>exact key (by simp) rfl rfl (fun h=>⟨_,rfl,h⟩)
     case sub=>exact key (by simp) rfl rfl (fun h=>⟨_,rfl,h⟩)
     case mul=>exact key (by simp) rfl rfl (fun h=>⟨_,rfl,h⟩)
     case and=>exact key (by simp) rfl rfl (fun h=>⟨_,rfl,h⟩)
     case or=>exact key (by simp) rfl rfl (fun h=>⟨_,rfl,h⟩)
     case xor=>exact key (by simp) rfl rfl (fun h=>⟨_,rfl,h⟩)
     case andNot=>exact key (by simp) rfl rfl (fun h=>⟨_,rfl,h⟩)
     case eql=>exact key (by simp) rfl rfl (fun h=>⟨_,rfl,h⟩)
     case neq=>exact key (by simp) rfl rfl (fun h=>⟨_,rfl,h⟩)
     case lss=>exact key (by simp) rfl rfl (fun h=>⟨_,rfl,h⟩)
     case leq=>exact key (by simp) rfl rfl (fun h=>⟨_,rfl,h⟩)
     case gtr=>exact key (by simp) rfl rfl (fun h=>⟨_,rfl,h⟩)
     case geq=>exact key (by simp) rfl rfl (fun h=>⟨_,rfl,h⟩)
     case quo=>exact key (z:=bS (if b=0 then none else some (k.wrap (a.tdiv b))) fun r=>K (.v (.int k r))) (by simp) rfl rfl (fun h=>by
      simp only[bL,jN2]at h;obtain⟨q,d,h⟩:=h;split at d
      .cases d
      .rename_i h0;cases d;exact⟨_,by rw[jU2 h0],h⟩)
     case rem=>exact key (z:=bS (if b=0 then none else some (a.tmod b)) fun r=>K (.v (.int k r))) (by simp) rfl rfl (fun h=>by
      simp only[bL,jN2]at h;obtain⟨q,d,h⟩:=h;split at d
      .cases d
      .rename_i h0;cases d;exact⟨_,by rw[jU2 h0],h⟩)
     all_goals (first|exact aD hk|exact key (z:=none) (w:=none) (by simp) rfl rfl (fun h=>aD h))
    |_=>exact aD hk
   |string a=>
    cases b with
    |string b=>
     cases op
     case add=>
      have hk:bS (if a.size+b.size<=2^62 then some (a++b)else none) (fun r=>K (.v (.string r)))=some r:=hk;simp only[bL,jN2]at hk;obtain⟨q,d,hk⟩:=hk;split at d
      .rename_i h0
       cases d;exact⟨_,_,_,rfl,rfl,by simp only[Sim.binS];rw[jX2 h0],hk⟩
      .cases d
     all_goals first|exact aD hk|exact⟨_,_,_,rfl,rfl,rfl,hk⟩
    |_=>exact aD hk
   |_=>exact aD hk
  |_=>exact aD hk
 |_=>exact aD hk
theorem fX1 {op:BinOp} (f:cA C n h lim s) (g:LR (RV C) xs ys) (hk:cM (.bin op) xs h n K=some r):dP C n h lim s (.bin op) ys K r:=by
 rcases xs with _|⟨x,_|⟨i,_|⟨x2,t⟩⟩⟩
 exact aD hk;exact aD hk;obtain⟨j,_,rfl,h1,h2⟩:=g.inv_cons;obtain⟨k,_,rfl,d,e⟩:=h2.inv_cons;rw[e.inv_nil];obtain⟨a,b,c,rfl,rfl,hb,hk⟩:=Ng (K:=fun v=>K v h n) hk;rw[dY h1,dY d];exact bE f (by simp[doOp,hb]) (.cl (.v c)) hk;exact aD hk
theorem fY1 {neg:Bool} (e:cA C n h lim s) (f:LR (RV C) xs ys) (hk:cM (.eqB neg) xs h n K=some r):dP C n h lim s (.eqB neg) ys K r:=by
 rcases xs with _|⟨x,_|⟨i,_|⟨x2,t⟩⟩⟩
 exact aD hk;exact aD hk;obtain⟨g,_,rfl,h1,h2⟩:=f.inv_cons;obtain⟨j,_,rfl,c,d⟩:=h2.inv_cons;rw[d.inv_nil];cases x with
 |v xv=>
  cases xv with
  |bool a=>
   cases i with
   |v iv=>
    cases iv with
    |bool b=>
     rw[dY h1,dY c];exact bE e rfl (.cl (.v _)) hk
    |_=>exact aD hk
   |_=>exact aD hk
  |_=>cases i with
   |v iv=>cases iv<;>exact aD hk
   |_=>exact aD hk
 |_=>cases i with
  |v iv=>cases iv<;>exact aD hk
  |_=>exact aD hk
 exact aD hk
theorem zO:∀(ks:aA CK) (as i:aA PV) (K:Bool->aB R) (r:R) (c d:aA AV),Wn ks as i K=some r->LR (RV C) as c->LR (RV C) i d->
  ∃b,Sim.cellsEq ks c d=some b/\K b=some r/\c.length=ks.length/\d.length=ks.length
 |[],[],[],K,r,c,d,h,ha,hb=>by
  rw[ha.inv_nil,hb.inv_nil]
  exact⟨true,rfl,h,rfl,rfl⟩
 |k::ks,a::as,b::i,K,r,c,d,h,ha,hb=>by
  obtain⟨y,ys,rfl,h1,h2⟩:=ha.inv_cons
  obtain⟨z,zs,rfl,l,m⟩:=hb.inv_cons
  simp only[Wn]at h
  obtain⟨t,p,f,s,u⟩:=zO ks as i _ r ys zs h h2 m
  have fin:∀q:Bool,Sim.cellEq k y z=some q->K (q&&t)=some r->∃b,Sim.cellsEq (k::ks) (y::ys) (z::zs)=some b/\K b=some r/\(y::ys).length=(k::ks).length/\(z::zs).length=(k::ks).length:=by
   intro q n hK;refine⟨q&&t,?_,hK,by simp[s],by simp[u]⟩;simp only[Sim.cellsEq,n];cases q;rfl;simpa using p
  split at f;rename_i j x o g;rw[Bb]at f;by_cases e:j=o;rw[kZ2 e,kD2]at f;rw[dY h1,dY l]at fin ⊢;exact fin (x==g) (by simp[Sim.cellEq,e]) f
  grind
  rename_i x g;rw[dY h1,dY l]at fin ⊢;exact fin (x==g) rfl f;rename_i x g;rw[dY h1,dY l]at fin ⊢;exact fin (x==g) rfl f;exact aD f
 |[],_::_,_,_,_,_,_,h,_,_=>aD h
 |[],[],_::_,_,_,_,_,h,_,_=>aD h
 |_::_,[],_,_,_,_,_,h,_,_=>aD h
 |_::_,_::_,[],_,_,_,_,h,_,_=>aD h
theorem fZ1 {neg:Bool} {ks:aA CK} (f:cA C n h lim s) (j:LR (RV C) xs ys) (hk:cM (.eqA neg ks) xs h n K=some r):dP C n h lim s (.eqA neg ks) ys K r:=by
 rcases xs with _|⟨x,_|⟨i,_|⟨x2,t⟩⟩⟩
 exact aD hk;exact aD hk;obtain⟨p,_,rfl,h1,h2⟩:=j.inv_cons;obtain⟨q,_,rfl,d,e⟩:=h2.inv_cons;rw[e.inv_nil];cases x with
 |agg as=>
  cases i with
  |agg bs=>
   obtain⟨a,rfl,g⟩:=kP h1;obtain⟨c,rfl,hb⟩:=kP d;obtain⟨b,k,l,m,o⟩:=zO ks as bs _ r a c hk g hb;refine bE f ?_ (.cl (.v _)) l;simp only[doOp];rw[jX2 ⟨m,o⟩,k]
  |_=>exact aD hk
 |_=>cases i<;>exact aD hk
 exact aD hk
theorem jV1 {op:UnOp} (a:cA C n h lim s) (b:LR (RV C) xs ys) (hk:cM (.un op) xs h n K=some r):dP C n h lim s (.un op) ys K r:=by
 rcases xs with _|⟨x,_|⟨x2,t⟩⟩
 exact aD hk;obtain⟨y,_,rfl,h1,h2⟩:=b.inv_cons;rw[h2.inv_nil];cases x with
 |v xv=>
  rw[dY h1];cases op<;>cases xv<;>first|exact aD hk|exact bE a rfl (.cl (.v _)) hk
 |_=>cases op<;>exact aD hk
 exact aD hk
theorem Rw {k:IntKind} (a:cA C n h lim s) (b:LR (RV C) xs ys) (hk:cM (.convI k) xs h n K=some r):dP C n h lim s (.convI k) ys K r:=by
 rcases xs with _|⟨x,_|⟨x2,t⟩⟩
 exact aD hk;obtain⟨y,_,rfl,h1,h2⟩:=b.inv_cons;rw[h2.inv_nil];cases x with
 |v xv=>
  rw[dY h1];cases xv<;>first|exact aD hk|exact bE a rfl (.cl (.v _)) hk
 |_=>exact aD hk
 exact aD hk
theorem Fb (b:ByteArray):RR (byteRows b) (Sim.byteRows b):=by
 unfold byteRows Sim.byteRows
 induction b.data.toList with
 |nil=>exact .nil
 |cons a as ih=>exact .cons (.cons (.v _) .nil) ih
theorem gA1 {t:TypeId} (a:cA C n h lim s) (c:LR (RV C) xs ys) (hk:cM (.s2b t) xs h n K=some r):dP C n h lim s (.s2b t) ys K r:=by
 rcases xs with _|⟨x,_|⟨x2,t⟩⟩
 exact aD hk;obtain⟨y,_,rfl,h1,h2⟩:=c.inv_cons;rw[h2.inv_nil];cases x with
 |v xv=>
  rw[dY h1];cases xv with
  |string b=>exact bE a rfl (.cl (Fb b).is) hk
  |_=>exact aD hk
 |_=>exact aD hk
 exact aD hk
theorem Ws {f:Fn} {m:Nat} (g:cA C n h lim s) (e:LR (RV C) xs ys) (hk:cM (.mkfn f m) xs h n K=some r):dP C n h lim s (.mkfn f m) ys K r:=by
 cases f with
 |func f=>
  have hk:mY m xs (fun a=>fM m xs fun b=>K (.fn f a b) h n)=some r:=by
   rcases xs with _|⟨a,_|⟨b,_|⟨c,t⟩⟩⟩<;>exact hk
  obtain⟨_,i⟩:=lW _ _ _ _ hk;obtain⟨_,j⟩:=dG _ _ _ _ i;have d:=e.take m;have hb:=e.drop m;refine bE g ?_ (.fn d.1 hb.1 d.2 hb.2) j;rcases ys with _|⟨a,_|⟨b,_|⟨c,t⟩⟩⟩<;>rfl
 |_=>rcases xs with _|⟨a,_|⟨b,_|⟨c,t⟩⟩⟩<;>exact aD hk
theorem Rx (a:cA C n h lim s) (c:LR (RV C) xs ys) (hk:cM .mkmap xs h n K=some r):dP C n h lim s .mkmap ys K r:=by
 rcases xs with _|⟨x,t⟩
 have hk:K (.map n) ((n,.mp [])::h) (n+1)=some r:=hk;rw[c.inv_nil];have b:=iO a (.atp s.n 0 0 1);obtain⟨d,f,g⟩:=nE a (po:=.mp []) (ao:=.map []) (ver:=0) (e:=0) (len:=1) ⟨a.lim,by omega,[],by rw[dM,jX2 rfl],rfl,fun j x y h=>by simp at h⟩;exact⟨_,_,_,_,{v:=.map s.n,new:=some (.map [])},hk,rfl,.map (kQ C n _),d,b,by omega,f,fun _=>g⟩;exact aD hk
theorem Wt {ty:TypeId} {e b:Nat} {zero:aA Value} (d:cA C n h lim s) (o:LR (RV C) xs ys) (hk:cM (.mksl ty e b zero) xs h n K=some r):dP C n h lim s (.mksl ty e b zero) ys K r:=by
 rcases xs with _|⟨x,_|⟨i,_|⟨x2,t⟩⟩⟩
 exact aD hk;exact aD hk;obtain⟨w,_,rfl,h1,h2⟩:=o.inv_cons;obtain⟨y,_,rfl,k,m⟩:=h2.inv_cons;rw[m.inv_nil];cases x with
 |v xv=>
  cases xv with
  |int k1 l=>
   cases i with
   |v iv=>
    cases iv with
    |int k2 c=>
     rw[dY h1,dY k];have hk:(bif fE ty then none else qH (zero.map .v) (fun z=>bS (nB l c z) fun rows=>K (.own n) ((n,.lst ty e true rows)::h) (n+1)))=some r:=hk;cases hfx:fE ty with
     |true=>rw[hfx]at hk;exact aD hk
     |false=>
     rw[hfx,kQ2]at hk;have j:xU ty=ty:=by simp[xU,hfx]
     simp only[nV,bL,jN2,nB]at hk;obtain⟨rows,g,hk⟩:=hk;split at g;rename_i h0;cases g;have f:=iO d (.atp s.n 0 e l.toNat);have a:l.toNat<=c.toNat:=by omega
     obtain⟨p,q,u⟩:=nE d (po:=.lst ty e true (List.replicate l.toNat (zero.map .v))) (ao:=.arr false ty e 0 (List.replicate c.toNat (Sim.zeroRow zero))) (ver:=0) (e:=e) (len:=l.toNat)
      ⟨d.lim,by omega,rfl,by simp,_,by rw[dM,jX2 rfl,j],by
       rw[List.length_replicate,List.take_replicate,Nat.min_eq_left a];exact RR.replicate (LR.zeroP zero) _,by simpa using a,fun h=>by cases h⟩
     refine⟨_,_,_,_,{v:=.sl e s.n 0 0 l.toNat none,new:=some (.arr false ty e 0 (List.replicate c.toNat (Sim.zeroRow zero)))},hk,?_,.own (kQ C n _),p,f,by omega,q,fun _=>u⟩;simp only[doOp,Sim.intOf];rw[jX2 h0];cases g
    |_=>exact aD hk
   |_=>exact aD hk
  |_=>cases i with
   |v iv=>cases iv<;>exact aD hk
   |_=>exact aD hk
 |_=>cases i with
  |v iv=>cases iv<;>exact aD hk
  |_=>exact aD hk
 exact aD hk
end
end Go.P
namespace Go.P
open Go.Sim (AV AO Hp eO upd St IC IX Ex dQ CK Wf Out doOp)
section
variable {R:Type} {C:Cx} {n:Nat} {h:aN} {lim:Nat} {s:Hp} {k:dQ} {xs:List PV} {ys:List AV} {K:PV->aN->Nat->Option R} {r:R}
theorem Bd {lo hi:Bool} {len:Nat} {c:aA PV} {K:Int->Int->aB R} {a:aA AV} (b:LR (RV C) c a) (hk:uE lo hi len c K=some r):∃l q,Sim.bounds lo hi len a=some (l,q)/\K l q=some r:=by
 unfold uE at hk;split at hk;rw[b.inv_nil];exact⟨_,_,rfl,hk⟩;obtain⟨y,_,rfl,h1,h2⟩:=b.inv_cons;rw[h2.inv_nil,dY h1];exact⟨_,_,rfl,hk⟩;obtain⟨y,_,rfl,h1,h2⟩:=b.inv_cons;rw[h2.inv_nil,dY h1];exact⟨_,_,rfl,hk⟩;obtain⟨y,_,rfl,h1,h2⟩:=b.inv_cons;obtain⟨f,_,rfl,d,e⟩:=h2.inv_cons;rw[e.inv_nil,dY h1,dY d];exact⟨_,_,rfl,hk⟩;exact aD hk
theorem gB1 {e:Nat} {lo hi mx:Bool} (k:cA C n h lim s) (o:LR (RV C) xs ys) (hk:cM (.slc e lo hi mx) xs h n K=some r):dP C n h lim s (.slc e lo hi mx) ys K r:=by
 rcases xs with _|⟨x,bs⟩
 exact aD hk;obtain⟨y,a,rfl,h1,h2⟩:=o.inv_cons
 have hk:(bif mx then none else match(generalizing:=false) x with
  |.is e' rows=>bif Nat.beq e' e then uE lo hi rows.length bs (fun l r=>bS (kY rows l r) fun rows=>K (.is e rows) h n)else none
  |_=>none)=some r:=by
  rcases bs with _|⟨b,_|⟨c,t⟩⟩<;>exact hk
 cases mx with
 |true=>exact aD hk
 |false=>
  rw[kQ2]at hk;cases x with
  |is e' rows=>
   simp only[bG]at hk;by_cases m:e'=e;subst m;rw[kZ2 rfl,kD2]at hk;obtain⟨l,q,hb,hk⟩:=Bd h2 hk;simp only[bL,jN2,kY]at hk;obtain⟨j,f,hk⟩:=hk;split at f;rename_i h0;cases f;rcases wJ h1 with⟨rows',rfl,hr⟩|⟨rfl,hy⟩
   have hlen:=hr.1;refine bE k ?_ (.cl ((hr.drop l.toNat).take (q.toNat-l.toNat)).is) hk;have d:Sim.bounds lo hi rows'.length a=some (l,q):=by rw[<-hlen];exact hb
   have:Sim.sliceOp (Sim.look s.h) e' lo hi false (.is e' rows'::a)=some (.is e' ((rows'.drop l.toNat).take (q.toNat-l.toNat))):=by
    simp only[Sim.sliceOp];simp only[kB2,kU2,d];rw[jX2 ⟨by trivial,h0.1,h0.2.1,by rw[<-hlen];exact h0.2.2⟩]
   rcases a with _|⟨b,_|⟨c,t⟩⟩<;>simp only[doOp,this,kL2];have g:l=0:=by simp at h0;omega
   have i:q=0:=by simp at h0;omega
   subst g;subst i;have d:Sim.bounds lo hi 0 a=some (0,0):=hb
   have:Sim.sliceOp (Sim.look s.h) e' lo hi false (y::a)=some y:=by
    subst hy;simp[Sim.sliceOp,d]
   refine bE (y:=y) k ?_ ?_ hk;rcases a with _|⟨b,_|⟨c,t⟩⟩<;>simp only[doOp,this,kL2]
   grind
   cases f
   grind
  |_=>exact aD hk
theorem zP {k:CK} {a b:PV} {a' b':AV} (c:RC false a a') (hb:RC false b b') {q:Bool} (h:nT k a b=some q):Sim.cellEq k a' b'=some q:=by
 unfold nT at h;split at h;cases c;cases hb;exact h;cases c;cases hb;exact h;cases c;cases hb;exact h;cases h
theorem pD:∀{ks:aA CK} {as e:aA PV} {c d:aA AV},LR (RC false) as c->LR (RC false) e d->∀{q:Bool},iJ ks as e=some q->Sim.cellsEq ks c d=some q
 |[],[],[],c,d,ha,hb,q,h=>by rw[ha.inv_nil,hb.inv_nil];exact h
 |k::ks,a::as,b::e,c,d,ha,hb,q,h=>by
  obtain⟨y,ys,rfl,h1,h2⟩:=ha.inv_cons
  obtain⟨z,zs,rfl,f,g⟩:=hb.inv_cons
  simp only[iJ]at h
  simp only[Sim.cellsEq]
  split at h
  rename_i he;rw[zP h1 f he];exact pD h2 g h
  rename_i he;rw[zP h1 f he];exact h
  cases h
 |[],_::_,_,_,_,_,_,_,h=>by cases h
 |[],[],_::_,_,_,_,_,_,h=>by cases h
 |_::_,[],_,_,_,_,_,_,h=>by cases h
 |_::_,_::_,[],_,_,_,_,_,h=>by cases h
theorem Io {p:Bool} {cs:aA PV} {y:AV} (h:RC p (.agg cs) y):∃cs',y=.agg cs'/\LR (RC false) cs cs':=by
 cases h with|agg a b=>exact⟨_,rfl,a,b⟩
theorem Fc {agg:Bool} {ks:aA CK} {a b:PV} {a' b':AV} (c:RC false a a') (hb:RC false b b') {q:Bool} (h:oY agg ks a b=some q):Sim.keyEq agg ks a' b'=some q:=by
 unfold oY at h;unfold Sim.keyEq;cases agg with
 |true=>
  simp only[kR2]at h ⊢;split at h;obtain⟨x,rfl,h1⟩:=Io c;obtain⟨y,rfl,h2⟩:=Io hb;simp only;split at h;rename_i hc;rw[jX2 ⟨by rw[<-h1.1];exact hc.1,by rw[<-h2.1];exact hc.2⟩];exact pD h1 h2 h;cases h;cases h
 |false=>
  simp only[kB2,kU2]at h ⊢;exact pD (.cons c .nil) (.cons hb .nil) h
theorem ER.nil:ER [] []:=⟨rfl,fun j x y h=>by simp at h⟩
theorem ER.inv_cons {x:PV×PV} {es:aA (PV×PV)} {es':aA (AV×AV)} (h:ER (x::es) es'):∃y t,es'=y::t/\RC false x.1 y.1/\RC false x.2 y.2/\ER es t:=by
 cases es' with
 |nil=>have:=h.1;simp at this
 |cons y t=>exact⟨y,t,rfl,(h.2 0 x y rfl rfl).1,(h.2 0 x y rfl rfl).2,by have:=h.1;simpa using this,fun j a b c hb=>h.2 (j+1) a b (by simpa using c) (by simpa using hb)⟩
theorem uG {agg:Bool} {ks:aA CK} {k:PV} {k':AV} (hk:RC false k k'):∀{es:aA (PV×PV)} {es':aA (AV×AV)} {i:Nat} {o:aB (Nat×PV)},ER es es'->qL agg ks k es i=some o->
  ∃o',Sim.findKey agg ks k' es' i=some o'/\((o=none/\o'=none)\/∃j x y,o=some (j,x)/\o'=some (j,y)/\RC false x y)
 |[],es',i,o,he,h=>by
  have:es'=[]:=by have:=he.1;simpa using this.symm
  subst this
  simp only[qL,jT2]at h
  exact⟨none,rfl,.inl ⟨h.symm,rfl⟩⟩
 |(a,x)::es,es',i,o,he,h=>by
  obtain⟨⟨b,y⟩,t,rfl,h1,h2,d⟩:=he.inv_cons
  simp only[qL]at h
  simp only[Sim.findKey]
  split at h
  rename_i c
  rw[Fc hk h1 c]
  cases h
  exact⟨_,rfl,.inr ⟨i,x,y,rfl,rfl,h2⟩⟩
  rename_i c
  rw[Fc hk h1 c]
  exact uG hk d h
  cases h
theorem lB {agg:Bool} {ks:aA CK} {k:PV} {k':AV} (hk:RC false k k') (h:rX agg ks k=true):Sim.keyOK agg ks k'=true:=by
 unfold rX at h;split at h;obtain⟨cs',rfl,hl⟩:=Io hk;simp only[jO2,lR2]at h;simp[Sim.keyOK,<-hl.1,h.2];cases hk;simp only[kH2]at h;subst h;rfl;cases h
theorem zQ {x:PV} {y:AV} (h:RV C x y):∀{d:Nat},cR d x=true->RC false x y:=by
 induction h with
 |cl h=>intro d _;exact h
 |fn h1 h2 v1 v2 i1 i2=>
  intro d hd;cases d with
  |zero=>simp[cR]at hd
  |succ d=>
   simp only[cR,jO2,jV2]at hd;exact .fn h1 h2 (fun j x y a b=>i1 j x y a b (hd.1 x (kA2 a))) (fun j x y a b=>i2 j x y a b (hd.2 x (kA2 a)))
 |agg hl hc ih=>
  intro d hd;cases d with
  |zero=>simp[cR]at hd
  |succ d=>
   simp only[cR,jV2]at hd;exact .agg hl (fun j x y a b=>ih j x y a b (hd x (kA2 a)))
 |tup hl hc ih=>
  intro d hd;cases d with
  |zero=>simp[cR]at hd
  |succ d=>
   simp only[cR,jV2]at hd;exact .tup hl (fun j x y a b=>ih j x y a b (hd x (kA2 a)))
 |_=>intro d hd;cases d<;>simp[cR]at hd
theorem Nh {agg ok:Bool} {ks:aA CK} {zero:AV} (g:cA C n h lim s) (D:LR (RV C) xs ys) (hk:cM (.lookup agg ks zero ok) xs h n K=some r):dP C n h lim s (.lookup agg ks zero ok) ys K r:=by
 rcases xs with _|⟨m,_|⟨k,_|⟨x2,t⟩⟩⟩
 exact aD hk;exact aD hk;obtain⟨w,_,rfl,h1,h2⟩:=D.inv_cons;obtain⟨E,_,rfl,A,B⟩:=h2.inv_cons;rw[B.inv_nil];cases hz:zero with
 |v z=>
  subst hz
  have key:∀(es:aA (PV×PV)) (es':aA (AV×AV)),ER es es'->Sim.entsOf (Sim.look s.h) w=some es'->
    (bif cR 2 k then(bif ok then bS (lU agg ks (.v z) k es) (fun r=>K (.tup [r.1,.v (.bool r.2)]) h n)else bS (oZ agg ks (.v z) k es) fun r=>K r h n)else none)=some r->dP C n h lim s (.lookup agg ks (.v z) ok) [w,E] K r:=by
   intro es es' he f hk;cases hcl:cR 2 k with
   |false=>rw[hcl]at hk;exact aD hk
   |true=>
   rw[hcl,kD2]at hk;have b:=zQ A hcl;cases ok with
   |true=>
    simp only[kD2,bL,jN2,lU]at hk;obtain⟨q,d,hk⟩:=hk;split at d;rename_i c;simp only[jQ2]at d;obtain⟨o,p,rfl⟩:=d;obtain⟨o',i,u⟩:=uG b he p;rcases u with⟨rfl,rfl⟩|⟨j,x,y,rfl,rfl,hxy⟩
    refine bE g (y:=.tup [.v z,.v (.bool false)]) ?_ ?_ hk;simp[doOp,lB b c,f,i];exact .tup rfl (LR.cons (.cl (.v z)) (.cons (.cl (.v _)) .nil)).2;refine bE g (y:=.tup [y,.v (.bool true)]) ?_ ?_ hk;simp[doOp,lB b c,f,i];exact .tup rfl (LR.cons (.cl hxy) (.cons (.cl (.v _)) .nil)).2;cases d
   |false=>
    simp only[kQ2,bL,jN2,oZ]at hk;obtain⟨q,d,hk⟩:=hk;split at d;rename_i c;simp only[jQ2]at d;obtain⟨o,p,rfl⟩:=d;obtain⟨o',i,u⟩:=uG b he p;rcases u with⟨rfl,rfl⟩|⟨j,x,y,rfl,rfl,hxy⟩
    refine bE g (y:=.v z) ?_ (.cl (.v z)) hk;simp[doOp,lB b c,f,i];refine bE g (y:=y) ?_ (.cl hxy) hk;simp[doOp,lB b c,f,i];cases d
  unfold cM at hk;simp only at hk;cases m with
  |im es=>
   obtain⟨es',rfl,he⟩:=dK1 h1;exact key es es' he rfl hk
  |map j=>
   simp only[dX,jN2]at hk;obtain⟨ob,hg,hk⟩:=hk;cases ob with
   |mp es=>
    obtain⟨id,ver,e,len,l,rfl⟩:=sB h1;obtain⟨_,es',f,he⟩:=Fa g hg l;exact key es es' he.er (by simp[Sim.entsOf,f]) hk
   |_=>exact aD hk
  |zm es=>
   rcases dL1 h1 with⟨id,es',rfl,l,he⟩|⟨rfl,rfl⟩
   exact key es es' he.er (by simp[Sim.entsOf,(g.hr.zr id _ l).1]) hk;exact key [] [] ⟨rfl,fun j x y a=>by simp at a⟩ rfl hk
  |_=>exact aD hk
 |_=>subst hz;exact aD hk
 exact aD hk
theorem dN1 {x:PV} {y:AV} (h:RV C x y) (hp:Ig x=true):RK x y:=by
 cases x with
 |agg cs=>
  obtain⟨cs',rfl,hl⟩:=kP h;exact .inr ⟨cs,cs',rfl,rfl,hl.plain hp⟩
 |_=>exact .inl (h.plain hp)
theorem Ry {agg:Bool} {ks:aA CK} (D:cA C n h lim s) (R:LR (RV C) xs ys) (hk:cM (.mapup agg ks) xs h n K=some r):dP C n h lim s (.mapup agg ks) ys K r:=by
 rcases xs with _|⟨m,_|⟨k,_|⟨x,_|⟨x2,t⟩⟩⟩⟩
 exact aD hk;exact aD hk;exact aD hk;obtain⟨V,_,rfl,h1,h2⟩:=R.inv_cons;obtain⟨w,_,rfl,J,L⟩:=h2.inv_cons;obtain⟨y,_,rfl,M,N⟩:=L.inv_cons;rw[N.inv_nil];cases m with
 |map j=>
  have hk:hK h j (fun ob=>match ob with
   |.mp es=>bif Ig k&&Ig x then bS (wC agg ks k x es) fun es=>fO h j (.mp es) fun h=>K .undef h n else none
   |_=>none)=some r:=hk
  simp only[dX,jN2]at hk;obtain⟨ob,hg,hk⟩:=hk;cases ob with
  |mp es=>
   by_cases g:(Ig k&&Ig x)=true;simp only[g,kD2,bL,jN2,wC]at hk;simp only[jO2]at g;obtain⟨d,hp,hk⟩:=hk;have H:=dH _ _ _ _ _ hk;obtain⟨id,ver,e,len,z,rfl⟩:=sB h1;obtain⟨f,es',B,he⟩:=Fa D hg z;have F:=(D.hr.lt (by rw[hg];simp) z).2;have G:=dN1 J g.1;have S:=dN1 M g.2;have q:=G.rc;split at hp;rename_i u;simp only[jQ2]at hp;obtain⟨o,P,rfl⟩:=hp;obtain⟨o',q1,q2⟩:=uG q he.er P
   have fin:∀(d:aA (PV×PV)) (c:aA (AV×AV)),EM d c->K .undef (dW h j (.mp d)) n=some r->doOp (Sim.look s.h) lim s.n (.mapup agg ks) [.map id,w,y]=some {v:=.undef,up:=some (id,.map c)}->dP C n h lim s (.mapup agg ks) [.map id,w,y] K r:=by
    intro d c E A hd;obtain⟨T,U⟩:=pB D (po':=.mp d) (ao:=.map c) hg z ⟨f,F,c,by rw[Sim.look_upd];simp[B],E⟩ rfl;exact⟨_,_,_,_,_,A,hd,.undef,T,.refl _,jR2 _,U,fun O=>by cases O⟩
   rcases q2 with⟨rfl,rfl⟩|⟨i,x0,y0,rfl,rfl,hxy⟩
   refine fin _ (es'++[(w,y)]) ⟨by simp[he.1],fun i a b p hb=>?_⟩ H ?_;rw[lJ2]at p hb;rw[<-he.1]at hb;split at p;rename_i hi;rw[jX2 hi]at hb;exact he.2 i a b p hb
   grind
   simp only[doOp,B];rw[jX2 ⟨f,lB q u⟩,q1];refine fin _ (es'.set i (w,y)) ⟨by simp[he.1],fun l a b p hb=>?_⟩ H ?_;rw[kN2]at p hb;split at p
   grind
   rename_i hi;rw[jU2 hi]at hb;exact he.2 l a b p hb;simp only[doOp,B];rw[jX2 ⟨f,lB q u⟩,q1];cases hp
   grind
  |_=>exact aD hk
 |_=>exact aD hk
 exact aD hk
theorem gC1 {kd:Nat} (a:cA C n h lim s) (i:LR (RV C) xs ys) (hk:cM (.len kd) xs h n K=some r):dP C n h lim s (.len kd) ys K r:=by
 rcases xs with _|⟨x,_|⟨x2,t⟩⟩
 exact aD hk;obtain⟨y,_,rfl,h1,h2⟩:=i.inv_cons;rw[h2.inv_nil];unfold cM at hk;simp only[bG]at hk;split at hk;rename_i e rows;by_cases c:kd=0;subst c;simp only[lL2,kD2,bL,jW2]at hk;rcases Kr h1 with⟨rows',rfl,hr⟩|⟨rfl,rfl|rfl⟩
 exact bE a (by simp[doOp,<-hr.1]) (.cl (.v _)) hk;exact bE a rfl (.cl (.v _)) hk;exact bE a rfl (.cl (.v _)) hk
 grind
 rename_i k;by_cases c:kd=0;subst c;simp only[lL2,kD2,dX,jN2]at hk;obtain⟨ob,hg,hk⟩:=hk;cases ob with
 |lst ty e g rows=>
  simp only[bL,jW2]at hk;rcases gJ h1 with⟨id,ver,f,len,b,rfl⟩|⟨b,hy⟩
  obtain⟨_,_,hlen,_⟩:=gZ a hg b;subst hlen;exact bE a rfl (.cl (.v _)) hk;have:=iX a hg b;subst this;rcases hy with rfl|rfl;exact bE a rfl (.cl (.v _)) hk;exact bE a rfl (.cl (.v _)) hk
 |lz ty e dp rows=>
  simp only[bL,jW2]at hk;rcases gJ h1 with⟨id,ver,f,len,b,rfl⟩|⟨b,hy⟩
  obtain⟨_,_,_,hlen,_⟩:=tO a hg b;subst hlen;exact bE a rfl (.cl (.v _)) hk;have:=sF a hg b;subst this;rcases hy with rfl|rfl;exact bE a rfl (.cl (.v _)) hk;exact bE a rfl (.cl (.v _)) hk
 |fl fs=>
  rcases gJ h1 with⟨id,ver,f,len,b,rfl⟩|⟨b,hy⟩
  obtain⟨_,_,hlen,_⟩:=Rr a hg b;subst hlen;exact bE a rfl (.cl (.v _)) hk;exact(Rs a hg b).elim
 |_=>exact aD hk
 grind
 rename_i d e rows;by_cases c:kd=0;subst c;simp only[lL2,kD2,bL,jW2]at hk;rcases zM (zL h1)with(⟨rows',rfl,hr⟩|⟨rfl,rfl⟩)|⟨d',id,ver,ty,els,_,rfl,_,_,_⟩
 exact bE a (by simp[doOp,<-hr.1]) (.cl (.v _)) hk;exact bE a rfl (.cl (.v _)) hk;exact bE a rfl (.cl (.v _)) hk
 grind
 by_cases c:kd=0;subst c;rw[dY h1];exact bE a rfl (.cl (.v _)) hk
 grind
 by_cases c:kd=1;subst c;rw[dY h1];exact bE a rfl (.cl (.v _)) hk
 grind
 exact aD hk;exact aD hk
theorem wP {mx:Bool} {k:IntKind}:∀{xs:aA PV} {ys:aA AV} {a:Int} {K:Int->aB R},LR (RV C) xs ys->mnK mx k a xs K=some r->∃b,(if mx then Sim.foldMx k a ys else Sim.foldMn k a ys)=some b/\K b=some r
 |[],ys,a,K,hx,h=>by
  rw[hx.inv_nil]
  cases mx<;>exact⟨a,rfl,h⟩
 |x::xs,ys,a,K,hx,h=>by
  obtain⟨y,g,rfl,h1,h2⟩:=hx.inv_cons
  cases x with
  |v xv=>
   cases xv with
   |int k' b=>
    have h:(bif kEq k k' then mnK mx k (bif mx then(if b>a then b else a)else(if b<a then b else a)) xs K else none)=some r:=h
    rw[Bb]at h
    by_cases e:k=k'
    rw[kZ2 e,kD2]at h
    obtain⟨c,d,f⟩:=wP h2 h
    refine⟨c,?_,f⟩
    rw[dY h1]
    cases mx
    simpa[Sim.foldMn,e]using d
    simpa[Sim.foldMx,e]using d
    grind
   |_=>exact aD h
  |_=>exact aD h
theorem jW1 (f:cA C n h lim s) (g:LR (RV C) xs ys) (hk:cM .mn xs h n K=some r):dP C n h lim s .mn ys K r:=by
 rcases xs with _|⟨x,t⟩
 exact aD hk;obtain⟨y,d,rfl,h1,h2⟩:=g.inv_cons
 have hk:(match(generalizing:=false) x with
  |.v (.int k a)=>mnK false k a t (fun r=>K (.v (.int k r)) h n)
  |_=>none)=some r:=by rcases t with _|⟨b,_|⟨c,t⟩⟩<;>exact hk
 cases x with
 |v xv=>
  cases xv with
  |int k a=>
   obtain⟨b,e,i⟩:=wP h2 hk;rw[dY h1];refine bE f ?_ (.cl (.v _)) i;simp only[kB2,kU2]at e;rcases d with _|⟨b,_|⟨c,t⟩⟩<;>simp only[doOp,e,kL2]
  |_=>exact aD hk
 |_=>exact aD hk
theorem jX1 (f:cA C n h lim s) (g:LR (RV C) xs ys) (hk:cM .mx xs h n K=some r):dP C n h lim s .mx ys K r:=by
 rcases xs with _|⟨x,t⟩
 exact aD hk;obtain⟨y,d,rfl,h1,h2⟩:=g.inv_cons
 have hk:(match(generalizing:=false) x with
  |.v (.int k a)=>mnK true k a t (fun r=>K (.v (.int k r)) h n)
  |_=>none)=some r:=by rcases t with _|⟨b,_|⟨c,t⟩⟩<;>exact hk
 cases x with
 |v xv=>
  cases xv with
  |int k a=>
   obtain⟨b,e,i⟩:=wP h2 hk;rw[dY h1];refine bE f ?_ (.cl (.v _)) i;simp only[kR2]at e;rcases d with _|⟨b,_|⟨c,t⟩⟩<;>simp only[doOp,e,kL2]
  |_=>exact aD hk
 |_=>exact aD hk
theorem gD1 {i:Nat} (b:cA C n h lim s) (d:LR (RV C) xs ys) (hk:cM (.ext i) xs h n K=some r):dP C n h lim s (.ext i) ys K r:=by
 rcases xs with _|⟨x,_|⟨x2,t⟩⟩
 exact aD hk;obtain⟨y,_,rfl,h1,h2⟩:=d.inv_cons;rw[h2.inv_nil];cases x with
 |tup vs=>
  have hk:fM i vs (fun vs=>match vs with
   |v::_=>K v h n
   |[]=>none)=some r:=hk
  obtain⟨e,a⟩:=dG _ _ _ _ hk;obtain⟨cs',rfl,hl⟩:=Il h1;cases hd:vs.drop i with
  |nil=>rw[hd]at a;exact aD a
  |cons c t=>
   rw[hd]at a;obtain⟨y,hy,hv⟩:=hl.get (sD hd);exact bE b (by simp[doOp,hy]) hv a
 |_=>exact aD hk
 exact aD hk
end
end Go.P
namespace Go.P
open Go.Sim (AV AO Hp eO upd St IC IX Ex dQ CK Wf Out doOp)
theorem qR {α:Type}:∀(l:aA α) (o:Nat) (cs:aA α),o+cs.length<=l.length->Sim.setL l o cs=l.take o++cs++l.drop (o+cs.length)
 |[],o,cs,h=>by
  have h1:cs=[]:=by
   cases cs with
   |nil=>rfl
   |cons a as=>simp at h
  subst h1;simp[Sim.setL]
 |a::l,0,[],h=>by simp[Sim.setL]
 |a::l,0,c::cs,h=>by
  simp only[Sim.setL,List.set_cons_zero];rw[lA,qR l 0 cs (by simp at h ⊢;omega)];simp
 |a::l,o+1,cs,h=>by
  rw[lA,qR l o cs (by simp at h ⊢;omega)];simp[Nat.add_right_comm]
theorem sG (e:Nat):∀(m i:Nat) (cells xs:aA AV) (a:aA (aA AV)),cells.length=(i+m)*e->xs.length=m->a.length=m->
  (∀(j:Nat) (x:AV),xs[j]? =some x->∃cs,x.cells=some cs/\cs.length=e/\a[j]? =some cs)->
  Sim.fillParts cells ((List.range' i m).map fun i=>(i*e,e)) xs=some (cells.take (i*e)++a.flatten)
 |0,i,cells,xs,a,h1,h2,h3,h4=>by
  have g:xs=[]:=by simpa using h2
  have e2:a=[]:=by simpa using h3
  subst g;subst e2
  simp only[List.range'_zero,nB2,Sim.fillParts,List.flatten_nil,mR2]
  rw[kW2 (by rw[h1];simp)]
 |m+1,i,cells,xs,a,h1,h2,h3,h4=>by
  match xs,a,h2,h3 with
  |x::xs,cs0::a,h2,h3=>
   obtain⟨cs,k,d,f⟩:=h4 0 x rfl
   simp at f
   subst f
   simp only[List.range'_succ,lZ2,Sim.fillParts,k]
   have b:i*e+e<=cells.length:=by
    rw[h1];have:(i+1)*e<=(i+(m+1))*e:=kO2 _ (by omega);rw[lP2,Nat.one_mul]at this;exact this
   rw[jX2 ⟨d,b⟩];have hs:=qR cells (i*e) cs0 (by rw[d];exact b)
   have hlen:(Sim.setL cells (i*e) cs0).length=cells.length:=by
    rw[hs];simp[d];omega
   rw[sG e m (i+1) _ xs a (by rw[hlen,h1];congr 1;omega) (by simpa using h2) (by simpa using h3) (fun j x h=>by
    obtain⟨c,q1,q2,q3⟩:=h4 (j+1) x (by simpa using h);exact⟨c,q1,q2,by simpa using q3⟩)]
   congr 1;rw[hs,mZ2,<-List.append_assoc];congr 1
   have hl:(cells.take (i*e)++cs0).length=(i+1)*e:=by
    simp[d,lP2];omega
   rw[List.take_append_of_le_length (by rw[hl];exact jR2 _),kW2 (by rw[hl];exact jR2 _)]
theorem Rz (e:Nat):∀(a:aA (aA AV)),(∀c∈a,c.length=e)->(List.range a.length).map (fun i=>(a.flatten.drop (i*e)).take e)=a
 |[],_=>rfl
 |c::a,h=>by
  have hc:=h c (by simp)
  have ih:=Rz e a (fun c hc=>h c (by simp[hc]))
  rw[lD2,List.range_succ_eq_map,lZ2,List.map_map]
  simp only[nA2,lI2,mZ2]
  rw[List.take_append_of_le_length (by omega),kW2 (by omega)]
  congr 1
  refine Eq.trans (List.map_congr_left fun i _=>?_) ih
  simp only[Function.comp]
  rw[lC2,lU2,<-hc,<-mF2,List.drop_left]
theorem wQ (l:aA AV):∀(m:aA Nat),(m.flatMap fun _=>l).length=m.length*l.length
 |[]=>by simp
 |a::m=>by
  rw[List.flatMap_cons,lQ2,wQ l m,lD2,lC2,lU2]
section
variable {R:Type} {C:Cx} {n:Nat} {h:aN} {lim:Nat} {s:Hp} {k:dQ} {xs:List PV} {ys:List AV} {K:PV->aN->Nat->Option R} {r:R}
theorem Sa (a b:Nat):a<=(bif Nat.blt a b then b else a)/\b<=(bif Nat.blt a b then b else a):=by
 by_cases h:a<b;have hb:Nat.blt a b=true:=by simpa using h
 rw[hb];simp only[kD2];omega;have hb:Nat.blt a b=false:=by cases hb:Nat.blt a b with|false=>rfl|true=>exact absurd (by simpa using hb) h
 rw[hb];simp only[kQ2];omega
theorem Sb {x:PV} {y:AV} {d:Nat} {b:PV} (h:RV C x y) (hc:Rk x=some (d,b)):RZ C.z d b y:=by
 have pl:∀{x:PV},RV C x y->eF x=true->RC true x y:=fun a hp=>by
  have:=(LR.cons a .nil).plain (xs:=[_]) (by simpa using hp);exact this.head
 unfold Rk at hc;split at hc;cases hc;exact zL h;rename_i a;cases hp:eF x with
 |true=>rw[hp]at hc;cases hc;exact RZ.of (pl h hp)
 |false=>rw[hp]at hc;cases hc
theorem zR:∀{cs:aA PV} {cs':aA AV} {d:Nat} {ys:aA PV},LR (RV C) cs cs'->wD cs=some (d,ys)->LR (RZ C.z d) ys cs'
 |[],cs',d,ys,h,hc=>by
  rw[h.inv_nil];cases hc;exact .nil
 |x::xs,cs',d,ys,h,hc=>by
  obtain⟨y,e,rfl,h1,h2⟩:=h.inv_cons
  unfold wD at hc
  split at hc
  rename_i a f b xs' c e2
  cases hc
  have m:=Sa a b
  exact .cons (RZ.up m.1 (Sb h1 c)) ((zR h2 e2).mono fun _ _ h=>RZ.up m.2 h)
  cases hc
theorem jY1 {R:Type} (d:Nat) (K:Nat->aB R):fD d K=K d:=by
 unfold fD;split<;>rfl
theorem tP (e:Nat):∀(xs:aA PV) (K:Nat->aA (aA PV)->aB R) (r:R),wE e xs K=some r->∃dp rows,K dp rows=some r/\rows.length=xs.length/\
  ∀(j:Nat) (x:PV),xs[j]? =some x->∃cs,dO x=some cs/\∃d ys,wD cs=some (d,ys)/\ys.length=e/\d<=dp/\rows[j]? =some ys
 |[],K,r,h=>⟨0,[],h,rfl,fun j x a=>by simp at a⟩
 |x::xs,K,r,h=>by
  simp only[wE,jD,jY1,jN2]at h
  obtain⟨cs,h1,h2⟩:=h
  split at h2
  rename_i d ys f
  cases hb:Nat.beq ys.length e with
  |false=>rw[hb]at h2;cases h2
  |true=>
   rw[hb,kD2]at h2
   obtain⟨dp,rows,g,i,k⟩:=tP e xs _ r h2
   have m:=Sa d dp
   refine⟨_,_,g,by simp[i],fun j l a=>?_⟩
   cases j with
   |zero=>simp at a;subst a;exact⟨cs,h1,d,ys,f,kG2 hb,m.1,rfl⟩
   |succ j=>
    simp at a
    obtain⟨cs',q1,c,b,q2,q3,q4,q5⟩:=k j l a
    exact⟨cs',q1,c,b,q2,q3,kP2 q4 m.2,by simpa using q5⟩
  cases h2
theorem Ip {ty:TypeId} {e len:Nat} {zero:aA Value} {parts:aA Nat} (J:cA C n h lim s) (o:LR (RV C) xs ys) (hk:cM (.buildSl ty e len zero parts) xs h n K=some r):dP C n h lim s (.buildSl ty e len zero parts) ys K r:=by
 have hk:(bif My 0 parts&&(Nat.beq zero.length e&& !(fE ty))then(bif Nat.beq parts.length len then bif xs.all Rl then qM e xs fun rows=>bif Nat.beq rows.length len then K (.own n) ((n,.lst ty e false rows)::h) (n+1)else none else wE e xs fun dp rows=>bif Nat.beq rows.length len then K (.own n) ((n,.lz ty e dp rows)::h) (n+1)else none else none)else none)=some r:=by
  rcases xs with _|⟨a,_|⟨b,_|⟨c,t⟩⟩⟩<;>exact hk
 by_cases hc:(My 0 parts&&(Nat.beq zero.length e&& !(fE ty)))=true;rw[hc,kD2]at hk;simp only[jO2,bG,jY2]at hc hk;obtain⟨c1,c2,p⟩:=hc;have P:xU ty=ty:=by simp only[kH2]at p;simp[xU,p]
 have hfx:fE ty=false:=by simpa using p
 by_cases c3:parts.length=len;rw[kZ2 c3,kD2]at hk
 have M:∃(po:fG) (rows:aA (aA PV)) (Q:PV->AV->Prop),K (.own n) ((n,po)::h) (n+1)=some r/\rows.length=len/\rows.length=xs.length/\
   (∀(j:Nat) (x:PV),xs[j]? =some x->∃cs,dO x=some cs/\∃r,rows[j]? =some r/\r.length=e/\∀cs',LR (RV C) cs cs'->LR Q r cs')/\
   ∀f:aA (aA AV),rows.length=f.length->(∀(i:Nat) (r:aA PV) (r':aA AV),rows[i]? =some r->f[i]? =some r'->LR Q r r')->
    iA (ext C n (.atp s.n 0 e len)) (Sim.look (.ob s.n (.arr false ty e 0 f)::s.h)) lim (s.n+1) po (.atp s.n 0 e len):=by
  cases hpl:xs.all Rl with
  |true=>
   rw[hpl,kD2]at hk;obtain⟨rows,m,E,F⟩:=qQ e xs _ r hk;by_cases c4:rows.length=len;rw[kZ2 c4,kD2]at m;refine⟨_,rows,RC true,m,c4,E,fun j x o=>?_,fun f hl u=>?_⟩;obtain⟨cs,q1,q2,q3,q4⟩:=F j x o;exact⟨cs,q1,cs,q4,q2,fun cs' h=>h.plain q3⟩;exact⟨J.lim,by omega,rfl,c4.symm,f,by rw[dM,jX2 rfl,P],by rw[kW2 (by rw[hl];exact jR2 _)];exact⟨hl,u⟩,by rw[hl];exact jR2 _,fun _=>hl.symm⟩;rw[lH2 c4]at m;exact aD m
  |false=>
   rw[hpl,kQ2]at hk;obtain⟨dp,rows,m,E,F⟩:=tP e xs _ r hk;by_cases c4:rows.length=len;rw[kZ2 c4,kD2]at m;refine⟨_,rows,RZ C.z dp,m,c4,E,fun j x o=>?_,fun f hl u=>?_⟩;obtain⟨cs,q1,d,U,q2,q3,q4,q5⟩:=F j x o;exact⟨cs,q1,U,q5,q3,fun cs' h=>(zR h q2).mono fun _ _ h=>RZ.up q4 h⟩;exact⟨J.lim,by omega,rfl,c4.symm,hfx,f,by rw[dM,jX2 rfl],hl,u⟩;rw[lH2 c4]at m;exact aD m
 obtain⟨po,rows,Q,m,c4,E,F,R⟩:=M;have hp:=zJ 0 parts c1;rw[c3]at hp;subst hp
 have D:∀(j:Nat) (x:AV),ys[j]? =some x->∃cs,x.cells=some cs/\cs.length=e/\∃r,rows[j]? =some r/\LR Q r cs:=by
  intro j y hy;have A:j<xs.length:=by rw[o.1];exact(jP2.1 hy).1
  obtain⟨cs,q1,G,q2,q3,q4⟩:=F j xs[j] (by simp);obtain⟨cs',p1,p2⟩:=nD (o.2 j xs[j] y (by simp) hy) q1;have:=q4 cs' p2;exact⟨cs',p1,by rw[<-this.1];exact q3,G,q2,this⟩
 have q:∃f:aA (aA AV),f.length=ys.length/\∀(j:Nat) (x:AV),ys[j]? =some x->∃cs,x.cells=some cs/\cs.length=e/\f[j]? =some cs/\∃r,rows[j]? =some r/\LR Q r cs:=by
  refine⟨ys.map fun y=>(y.cells).getD [],by simp,fun j y hy=>?_⟩;obtain⟨cs,p1,p2,p3⟩:=D j y hy;exact⟨cs,p1,p2,by simp[hy,p1],p3⟩
 obtain⟨f,H,T⟩:=q;have g:ys.length=len:=by rw[<-o.1,<-E,c4]
 have W:(Sim.zeroRow zero).length=e:=by simp[Sim.zeroRow,c2]
 have L:((List.range len).flatMap fun _=>Sim.zeroRow zero).length=len*e:=by
  rw[wQ,W,List.length_range]
 have l:=sG e len 0 ((List.range len).flatMap fun _=>Sim.zeroRow zero) ys f (by rw[L];simp) g (by rw[H,g]) (fun j x o=>by
  obtain⟨cs,p1,p2,p3,_⟩:=T j x o;exact⟨cs,p1,p2,p3⟩)
 simp only[nA2,List.take_zero,List.nil_append]at l
 have w:∀c∈f,c.length=e:=by
  intro c hc;obtain⟨j,V⟩:=kJ2.1 hc;have A:j<ys.length:=by rw[<-H];exact(jP2.1 V).1
  obtain⟨cs,p1,p2,p3,_⟩:=T j ys[j] (by simp);rw[V]at p3;cases p3;exact p2
 have k:=Rz e f w;rw[H,g]at k
 have u:∀(j:Nat) (G:aA PV) (S:aA AV),rows[j]? =some G->f[j]? =some S->LR Q G S:=by
  intro j G S O B;have A:j<ys.length:=by rw[<-H];exact(jP2.1 B).1
  obtain⟨cs,p1,p2,p3,r2,p4,p5⟩:=T j ys[j] (by simp);rw[B]at p3;cases p3;rw[O]at p4;cases p4;exact p5
 have N:=iO J (.atp s.n 0 e len);obtain⟨X,Y,Z⟩:=nE J (po:=po) (ao:=.arr false ty e 0 f) (ver:=0) (e:=e) (len:=len) (R f (by rw[c4,H,g]) u);refine⟨_,_,_,_,{v:=.sl e s.n 0 0 len none,new:=some (.arr false ty e 0 f)},m,?_,.own (kQ C n _),X,N,by omega,Y,fun _=>Z⟩
 have:doOp (Sim.look s.h) lim s.n (.buildSl ty e len zero (List.range' 0 len)) ys=(Sim.fillParts ((List.range len).flatMap fun _=>Sim.zeroRow zero) ((List.range' 0 len).map fun i=>(i*e,e)) ys).map fun cs=>
  {v:=.sl e s.n 0 0 len none,new:=some (.arr false ty e 0 ((List.range len).map fun i=>(cs.drop (i*e)).take e))}:=by
  rcases ys with _|⟨a,_|⟨b,_|⟨c,t⟩⟩⟩<;>rfl
 rw[this,l];simp only[kL2];rw[k];rw[lH2 c3]at hk;exact aD hk;simp only[Bool.not_eq_true]at hc;rw[hc]at hk;exact aD hk
theorem wR {i:Int}:∀{m:Nat} {K:Nat->aB R} {r:R},Et i m K=some r->∃j,j<m/\i=(j:Int)/\K j=some r
 |0,K,r,h=>by unfold Et at h;exact aD h
 |m+1,K,r,h=>by
  unfold Et at h
  rw[lT]at h
  split at h
  rename_i e;exact⟨m,by omega,by simpa using e,h⟩
  obtain⟨j,h1,h2,a⟩:=wR h;exact⟨j,by omega,h2,a⟩
theorem Wu {len esz:Nat} (l:cA C n h lim s) (m:LR (RV C) xs ys) (hk:cM (.iadA len esz) xs h n K=some r):dP C n h lim s (.iadA len esz) ys K r:=by
 rcases xs with _|⟨p,_|⟨i,_|⟨x2,t⟩⟩⟩
 exact aD hk;exact aD hk;obtain⟨u,_,rfl,h1,h2⟩:=m.inv_cons;obtain⟨w,_,rfl,d,f⟩:=h2.inv_cons;rw[f.inv_nil];unfold cM at hk;simp only at hk;split at hk;rename_i i;split at hk;rename_i k o;obtain⟨j,q,a,b⟩:=wR hk;clear hk;subst a;rw[dY d];obtain⟨id,ver,e,c,g,rfl⟩:=iP h1;refine bE (v:=.ref k (o+j*esz)) (y:=.ptr id ver 0 (o+j*esz)) l ?_ (.ref g) b;simp only[doOp,Sim.intOf];rw[jX2 ⟨by omega,by omega⟩];simp;exact aD hk;exact aD hk;exact aD hk
theorem Fd (g:cA C n h lim s) (j:LR (RV C) xs ys) (hk:cM k xs h n K=some r):dP C n h lim s k ys K r:=by
 cases k with
 |mov=>exact fT1 g j hk
 |nilc=>exact Wq g j hk
 |box ty size=>exact fU1 g j hk
 |alloc ty zero=>exact Rp g j hk
 |build zero parts=>exact Rq g j hk
 |buildSl ty e len zero parts=>exact Ip g j hk
 |loadS=>exact Rt g j hk
 |loadA m=>exact Ru g j hk
 |store m=>exact Rv g j hk
 |fad off=>exact fV1 g j hk
 |iad e=>exact fW1 g j hk
 |iadA len esz=>exact Wu g j hk
 |idxStr=>exact Nf g j hk
 |idxA len e agg=>exact Wr g j hk
 |bin op=>exact fX1 g j hk
 |eqB neg=>exact fY1 g j hk
 |eqA neg ks=>exact fZ1 g j hk
 |un op=>exact jV1 g j hk
 |convI k=>exact Rw g j hk
 |s2b t=>exact gA1 g j hk
 |mkfn f m=>exact Ws g j hk
 |mkmap=>exact Rx g j hk
 |mksl ty e b zero=>exact Wt g j hk
 |slc e lo hi mx=>exact gB1 g j hk
 |lookup agg ks zero ok=>exact Nh g j hk
 |mapup agg ks=>exact Ry g j hk
 |len kd=>exact gC1 g j hk
 |mn=>exact jW1 g j hk
 |mx=>exact jX1 g j hk
 |ext i=>exact gD1 g j hk
 |_=>rcases xs with _|⟨a,_|⟨b,_|⟨c,_|⟨d,t⟩⟩⟩⟩<;>exact aD hk
end
end Go.P
namespace Go.P
open Go.Sim (AV AO Hp eO upd St IC IX Ex dQ CK Wf Out doOp gA Foot foot exec runOps cQ wanted put eW)
def gK:dQ->Bool
 |.callF _|.callV=>true
 |_=>false
def jU (N:FuncId->Bool) (dr:Nat):dQ->Nat
 |.len kd=>bif Nat.beq kd 2 then 1 else 0
 |.loadS|.loadA _|.lookup .. |.slc .. |.b2s=>1
 |.box .. |.alloc .. |.buildSl .. |.mkmap|.mksl .. =>2
 |.callF f=>if N f then 4 else 3
 |.callV=>if dr=4 then 4 else 3
 |.store _|.mapup .. |.append .. |.copy _|.clear .. =>5
 |_=>0
inductive Tr (T:gA) (N:FuncId->Bool) (dr lim:Nat):List Sim.Op1->St->List Foot->St->Prop
 |nil {σ:St}:Tr T N dr lim [] σ [] σ
 |skip {o:Sim.Op1} {os:List Sim.Op1} {σ τ:St} {fs:List Foot} (hw:wanted σ.t o.guard=false) (h:Tr T N dr lim os {t:=put σ.t o.dst .undef,s:=σ.s} fs τ):Tr T N dr lim (o::os) σ ({}::fs) τ
 |op {o:Sim.Op1} {os:List Sim.Op1} {σ τ:St} {fs:List Foot} {xs:List AV} {out:Out} (hw:wanted σ.t o.guard=true) (he:Sim.evs σ.t o.xs=some xs) (hc:gK o.k=false)
   (hd:doOp (Sim.look σ.s.h) lim σ.s.n o.k xs=some out) (h:Tr T N dr lim os {t:=put σ.t o.dst out.v,s:=out.apply σ.s} fs τ):
   Tr T N dr lim (o::os) σ ({foot T o.k xs with al:=List.range' σ.s.n ((out.apply σ.s).n-σ.s.n)}::fs) τ
 |call {o:Sim.Op1} {os:List Sim.Op1} {σ τ:St} {fs:List Foot} {xs:List AV} {v:AV} (hw:wanted σ.t o.guard=true) (he:Sim.evs σ.t o.xs=some xs) (hc:gK o.k=true) (hk:3<=jU N dr o.k) (hf:foot T o.k xs={all:=1})
   (hs:∃D,∀d,D<=d->∀m,Sim.step T (exec T d) lim o.k xs {h:=σ.s.h,n:=m}=some (v,{h:=σ.s.h,n:=m})) (h:Tr T N dr lim os {t:=put σ.t o.dst v,s:=σ.s} fs τ):
   Tr T N dr lim (o::os) σ ({all:=1}::fs) τ
 |ncall {o:Sim.Op1} {os:List Sim.Op1} {σ τ:St} {fs:List Foot} {xs:List AV} {v:AV} {s':Hp} (hw:wanted σ.t o.guard=true) (he:Sim.evs σ.t o.xs=some xs) (hf:(foot T o.k xs).all=2) (hk:dr≠0->jU N dr o.k=4)
   (hs:∃D,∀d,D<=d->Sim.step T (exec T d) lim o.k xs σ.s=some (v,s')) (h:Tr T N dr lim os {t:=put σ.t o.dst v,s:=s'} fs τ):
   Tr T N dr lim (o::os) σ ({foot T o.k xs with al:=List.range' σ.s.n (s'.n-σ.s.n)}::fs) τ
section
variable {T:gA} {N:FuncId->Bool} {dr lim:Nat}
theorem Tr.append {as a:aA Sim.Op1} {σ τ υ:St} {fs b:aA Foot} (h:Tr T N dr lim as σ fs τ) (k:Tr T N dr lim a τ b υ):Tr T N dr lim (as++a) σ (fs++b) υ:=by
 induction h with
 |nil=>exact k
 |skip hw h ih=>exact .skip hw (ih k)
 |op hw he hc hd h ih=>exact .op hw he hc hd (ih k)
 |call hw he hc hk hf hs h ih=>exact .call hw he hc hk hf hs (ih k)
 |ncall hw he hf hk hs h ih=>exact .ncall hw he hf hk hs (ih k)
theorem Ks {ex:Nat->Bool->IC->St->aB (Ex×St)} {k:dQ} {xs:aA AV} {s:Hp} {out:Out} (hc:gK k=false) (hd:doOp (Sim.look s.h) lim s.n k xs=some out):Sim.step T ex lim k xs s=some (out.v,out.apply s):=by
 unfold Sim.step;split;simp[gK]at hc;simp[gK]at hc;rw[hd]
theorem Tr.run {os:aA Sim.Op1} {σ τ:St} {fs:aA Foot} (h:Tr T N dr lim os σ fs τ):∃D,∀d,D<=d->runOps T (exec T d) lim os σ=some τ:=by
 induction h with
 |nil=>exact⟨0,fun d _=>rfl⟩
 |skip hw h ih=>
  obtain⟨D,a⟩:=ih;refine⟨D,fun d hd=>?_⟩;simp only[runOps,hw];exact a d hd
 |op hw he hc hd h ih=>
  obtain⟨D,a⟩:=ih;refine⟨D,fun d c=>?_⟩;simp only[runOps,hw,kR2,he,Ks hc hd];exact a d c
 |@ncall o os σ τ fs xs v s' hw he hf hk hs h ih=>
  obtain⟨D,a⟩:=ih;obtain⟨D2,b⟩:=hs;refine⟨max D D2,fun d hd=>?_⟩;simp only[runOps,hw,kR2,he,b d (by omega)];exact a d (by omega)
 |@call o os σ τ fs xs v hw he hc hk hf hs h ih=>
  obtain⟨D,a⟩:=ih;obtain⟨D2,b⟩:=hs;refine⟨max D D2,fun d hd=>?_⟩;simp only[runOps,hw,kR2,he];have:=b d (by omega) σ.s.n;rw[show({h:=σ.s.h,n:=σ.s.n}:Hp)=σ.s from rfl]at this;rw[this];exact a d (by omega)
def kR (c:Nat) (f:Foot):Prop:=
 f={}\/match c with
  |0=>f={}
  |1=>f.wr=[]/\f.al=[]/\f.all=0
  |2=>f.rd=[]/\f.wr=[]/\f.all=0
  |3=>f={all:=1}
  |5=>f.all=0
  |_=>True
def eI (i j:Nat):Bool:=
 bif Nat.beq i 0 then !Nat.beq j 4 else bif Nat.beq j 0 then !Nat.beq i 4 else
  (Nat.ble i 3&&Nat.ble j 3&& !(Nat.beq i 3&&Nat.beq j 3)&& !(Nat.beq i 2&&(Nat.beq j 3||Nat.beq j 1)))||(Nat.beq i 5&&Nat.beq j 2)
def iQ (i j:Nat):Bool:=Nat.beq i 0||Nat.beq j 0||eI i j
theorem Iq {i j:Nat} {f g:Foot} (hi:i<=5) (b:j<=5) (h:eI i j=true) (hf:kR i f) (hg:kR j g):Sim.compat0 f g=true:=by
 unfold kR at hf hg;have k:∀g:Foot,g.all<=1->Sim.compat0 {} g=true:=fun g hg=>by simp[Sim.compat0,hg]
 have d:∀f:Foot,f.all<=1->Sim.compat0 f {}=true:=fun f hf=>by simp[Sim.compat0,hf]
 have e:i≠4:=by rintro rfl;(match j,b,h with|0,_,h|1,_,h|2,_,h|3,_,h|4,_,h|5,_,h=>simp[eI]at h)
 have a:j≠4:=by rintro rfl;(match i,hi,h with|0,_,h|1,_,h|2,_,h|3,_,h|4,_,h|5,_,h=>simp[eI]at h)
 have a1:∀{c:Nat} {f:Foot},c<=5->c≠4->(f={}\/match c with
  |0=>f={}
  |1=>f.wr=[]/\f.al=[]/\f.all=0
  |2=>f.rd=[]/\f.wr=[]/\f.all=0
  |3=>f={all:=1}
  |5=>f.all=0
  |_=>True)->f.all<=1:=by grind
 have b1:=a1 hi e hf;have b2:=a1 b a hg;rcases hf with rfl|hf;exact k g b2;rcases hg with rfl|hg;exact d f b1
 have fin:f.wr=[]->g.wr=[]->f.al=[]\/(g.rd=[])->f.all+g.all<=1->Sim.compat0 f g=true:=by
  intro q1 q2 q3 q4;rcases q3 with q3|q3<;>simp[Sim.compat0,q1,q2,q3,q4]
 match i,hi,e,h,hf with
 |0,_,_,_,hf=>rw[hf];exact k g b2
 |1,_,_,h,hf=>
  obtain⟨p1,p2,p3⟩:=hf
  match j,b,a,h,hg with
  |0,_,_,_,hg=>rw[hg];exact d f b1
  |1,_,_,_,hg=>exact fin p1 hg.1 (.inl p2) (by rw[p3,hg.2.2];simp)
  |2,_,_,_,hg=>exact fin p1 hg.2.1 (.inl p2) (by rw[p3,hg.2.2];simp)
  |3,_,_,_,hg=>exact fin p1 (by rw[hg]) (.inl p2) (by rw[p3,hg];simp)
  |4,_,h4,_,_=>exact absurd rfl h4
  |5,_,_,h,_=>simp[eI]at h
 |2,_,_,h,hf=>
  obtain⟨p1,p2,p3⟩:=hf
  match j,b,a,h,hg with
  |0,_,_,_,hg=>rw[hg];exact d f b1
  |1,_,_,h,_=>simp[eI]at h
  |2,_,_,_,hg=>exact fin p2 hg.2.1 (.inr hg.1) (by rw[p3,hg.2.2];simp)
  |3,_,_,h,_=>simp[eI]at h
  |4,_,h4,_,_=>exact absurd rfl h4
  |5,_,_,h,_=>simp[eI]at h
 |3,_,_,h,hf=>
  match j,b,a,h,hg with
  |0,_,_,_,hg=>rw[hg];exact d f b1
  |1,_,_,_,hg=>exact fin (by rw[hf]) hg.1 (.inl (by rw[hf])) (by rw[hf,hg.2.2];simp)
  |2,_,_,_,hg=>exact fin (by rw[hf]) hg.2.1 (.inl (by rw[hf])) (by rw[hf,hg.2.2];simp)
  |3,_,_,h,_=>simp[eI]at h
  |4,_,h4,_,_=>exact absurd rfl h4
  |5,_,_,h,_=>simp[eI]at h
 |4,_,h1,_,_=>exact absurd rfl h1
 |5,_,_,h,hf=>
  match j,b,a,h,hg with
  |0,_,_,_,hg=>rw[hg];exact d f b1
  |1,_,_,h,_=>simp[eI]at h
  |2,_,_,_,hg=>
   obtain⟨p1,p2,p3⟩:=hg;have hf:f.all=0:=hf;simp[Sim.compat0,p1,p2,p3,hf]
  |3,_,_,h,_=>simp[eI]at h
  |4,_,h4,_,_=>exact absurd rfl h4
  |5,_,_,h,_=>simp[eI]at h
theorem zS {i j:Nat} {f g:Foot} (hi:i<=5) (a:j<=5) (h:iQ i j=true) (hf:kR i f) (hg:kR j g):Sim.compat f g=true:=by
 simp only[iQ,kE2]at h;rcases h with(h|h)|h;have:=kG2 h;subst this;rcases hf with rfl|hf;rfl;have hf:f={}:=hf;subst hf;rfl;have:=kG2 h;subst this;have hg:g={}:=by rcases hg with hg|hg<;>exact hg
 subst hg;simp[Sim.compat,Sim.Foot.isE];simp[Sim.compat,Iq hi a h hf hg]
theorem nF (N:FuncId->Bool) (dr:Nat) (k:dQ):jU N dr k<=5:=by
 cases k
 case len kd=>simp only[jU];cases Nat.beq kd 2<;>simp
 all_goals simp[jU]<;>split<;>omega
theorem qS {N:FuncId->Bool} {dr:Nat} {k:dQ} (h:gK k=true):jU N dr k=3\/jU N dr k=4:=by
 cases k<;>simp[gK]at h<;>simp only[jU]<;>split<;>simp
theorem dO1 {L:Nat->aB AO} {n:Nat} {k:dQ} {xs:aA AV} {out:Out} (h:doOp L lim n k xs=some out) (hk:jU N dr k<=1):out.new=none:=by
 have hc:∀{o:aB Out} {P:Prop},o=some out->(∀o',o=some o'->o'.new=none)->out.new=none:=fun h1 h2=>h2 _ h1;unfold doOp at h;split at h
 all_goals first|(simp[jU]at hk;done)|(simp only[jU]at hk;split at hk<;>omega)|skip
 all_goals (repeat' split at h)
 all_goals first|(cases h;done)|(cases h;rfl)|(simp only[jQ2]at h;obtain⟨_,_,rfl⟩:=h;rfl)|skip
theorem nG {s:Hp} {out:Out} (h:out.new=none):List.range' s.n ((out.apply s).n-s.n)=[]:=by
 unfold Out.apply;rw[h];simp
end
end Go.P
namespace Go.P
open Go.Sim (AV AO Hp eO upd St IC IX Ex dQ CK Wf Out doOp gA Foot foot exec runOps cQ wanted put eW)
section
variable {T:gA} {N:FuncId->Bool} {dr lim:Nat}
theorem Kt {k:dQ} {xs:aA AV} {s:Hp} {out:Out} (hc:gK k=false) (hd:doOp (Sim.look s.h) lim s.n k xs=some out):
  kR (jU N dr k) {foot T k xs with al:=List.range' s.n ((out.apply s).n-s.n)}:=by
 have d:jU N dr k<=1->List.range' s.n ((out.apply s).n-s.n)=[]:=fun h=>nG (dO1 hd h);cases k
 case len kd=>
  cases hk:Nat.beq kd 2 with
  |true=>
   have hl:=d (by simp[jU,hk]);rw[hl,show jU N dr (.len kd)=1 by simp[jU,hk]];refine .inr ⟨?_,rfl,?_⟩<;>(rcases xs with _|⟨a,_|⟨b,t⟩⟩<;>rfl)
  |false=>
   have h0:=d (by simp[jU,hk]);refine .inl ?_;rw[h0];rcases xs with _|⟨a,_|⟨b,t⟩⟩<;>simp[foot,hk]
 all_goals first|(simp[gK]at hc;done)|skip
 all_goals first
  |exact .inr trivial
  |(refine .inr ?_;rcases xs with _|⟨a,_|⟨b,_|⟨c,t⟩⟩⟩<;>rfl)
  |(have h0:=d (kS2 1);refine .inl ?_;rw[h0];rfl)
  |(have h0:=d (jR2 1);refine .inr ⟨?_,h0,?_⟩<;>(rcases xs with _|⟨a,_|⟨b,_|⟨c,t⟩⟩⟩<;>rfl))
  |exact .inr ⟨rfl,rfl,rfl⟩
theorem nO {c:Nat} (h:c=3\/c=4) (f:Foot) (hf:f={all:=1}):kR c f:=by
 subst hf;rcases h with rfl|rfl;exact .inr rfl;exact .inr trivial
theorem Tr.feet (a:dr≠0) {os:aA Sim.Op1} {σ τ:St} {fs:aA Foot} (h:Tr T N dr lim os σ fs τ):fs.length=os.length/\∀(i:Nat) (o:Sim.Op1) (f:Foot),os[i]? =some o->fs[i]? =some f->kR (jU N dr o.k) f:=by
 induction h with
 |nil=>exact⟨rfl,fun i o f h=>by simp at h⟩
 |skip hw h ih=>
  refine⟨by simp[ih.1],fun i o f h1 h2=>?_⟩;cases i with
  |zero=>simp at h1 h2;subst h1;subst h2;exact .inl rfl
  |succ i=>simp at h1 h2;exact ih.2 i o f h1 h2
 |op hw he hc hd h ih=>
  refine⟨by simp[ih.1],fun i o f h1 h2=>?_⟩;cases i with
  |zero=>simp at h1 h2;subst h1;subst h2;exact Kt hc hd
  |succ i=>simp at h1 h2;exact ih.2 i o f h1 h2
 |@call o os σ τ fs xs v hw he hc hk hf hs h ih=>
  refine⟨by simp[ih.1],fun i o' f h1 h2=>?_⟩;cases i with
  |zero=>
   simp at h1 h2;subst h1;subst h2;exact nO (qS hc) _ rfl
  |succ i=>simp at h1 h2;exact ih.2 i o' f h1 h2
 |@ncall o os σ τ fs xs v s' hw he hf hk hs h ih=>
  refine⟨by simp[ih.1],fun i o' f h1 h2=>?_⟩;cases i with
  |zero=>
   simp at h1 h2;subst h1;subst h2;rw[hk a];exact .inr trivial
  |succ i=>simp at h1 h2;exact ih.2 i o' f h1 h2
theorem fL {f g:Foot} (h:Sim.compat0 f g=true):Sim.compat f g=true:=by simp[Sim.compat,h]
def Be (ks before:aA Nat):Bool:=
 (List.range ks.length).all fun j=>(List.range j).all fun i=>(before.getD j 0).testBit i||iQ (ks.getD i 4) (ks.getD j 4)
theorem wS {a:Nat} {ft:Nat->Foot}:∀{j:Nat},(∀i,i<j->a.testBit i=true\/(ft i).al=[])->Sim.unseen a j (eW ft j)=[]
 |0,_=>rfl
 |j+1,h=>by
  simp only[eW,Sim.unseen,mH2]
  rw[wS (fun i hi=>h i (by omega))]
  rcases h j (by omega)with h1|h1
  rw[jX2 h1];rfl
  rw[h1];simp
theorem qT {a:Nat} {f:Foot} {ft:Nat->Foot}:∀{j:Nat},(∀i,i<j->a.testBit i=true\/Sim.compat (ft i) f=true)->Sim.drawOK.okAgainst a f (eW ft j) j=true
 |0,_=>rfl
 |j+1,h=>by
  simp only[eW,Sim.drawOK.okAgainst,mH2,jO2,kE2]
  exact⟨h j (by omega),qT (fun i hi=>h i (by omega))⟩
theorem sH {before:aA Nat} {ft:Nat->Foot}:∀{m:Nat},(∀j,j<m->∀i,i<j->(before.getD j 0).testBit i=true\/Sim.compat (ft i) (ft j)=true)->Sim.drawOK before (eW ft m) m=true
 |0,_=>rfl
 |m+1,h=>by
  simp only[eW,Sim.drawOK,mH2,jO2]
  exact⟨qT (h m (by omega)),sH (fun j a=>h j (by omega))⟩
theorem Sc (h:aA eO):Sim.hide [] h=h:=rfl
theorem Tr.foot (F:dr≠0) {before ks:aA Nat}:∀{os:aA Sim.Op1} {σ τ:St} {fs:aA Foot},Tr T N dr lim os σ fs τ->∀(j:Nat) (ft:Nat->Foot),
  (∀(i:Nat),i<fs.length->fs[i]? =some (ft (j+i)))->(∀(i:Nat) (o:Sim.Op1),os[i]? =some o->ks[j+i]? =some (jU N dr o.k))->
  (∀(i l k k':Nat),i<l->ks[i]? =some k->ks[l]? =some k'->k'=3\/k'=4->(before.getD l 0).testBit i=true\/iQ k k'=true)->(∀i k,i<j->ks[i]? =some k->kR k (ft i))->(∀i,i<j->∃k,ks[i]? =some k/\k<=5)->
  ∃D,∀d,D<=d->cQ T (exec T d) lim before os j (eW ft j) σ=some (τ,eW ft (j+os.length)):=by
 intro os σ τ fs h
 induction h with
 |nil=>intro j ft _ _ _ _ _;exact⟨0,fun d _=>rfl⟩
 |@skip o os σ τ fs hw h ih=>
  intro j ft h1 h2 m p q;have f0:ft j={}:=by have:=h1 0 (by simp);simpa using this.symm
  obtain⟨D,r⟩:=ih (j+1) ft (fun i hi=>by have:=h1 (i+1) (by simp;omega);simpa[lE2,lU2 1 i]using this) (fun i o y=>by have:=h2 (i+1) o (by simpa using y);simpa[lE2,lU2 1 i]using this) m
   (fun i k hi hk=>by
    by_cases e:i=j;subst e;rw[f0];exact .inl rfl;exact p i k (by omega) hk)
   (fun i hi=>by
    by_cases e:i=j;subst e;exact⟨_,by have:=h2 0 o rfl;simpa using this,nF _ _ _⟩;exact q i (by omega))
  refine⟨D,fun d hd=>?_⟩;simp only[cQ,hw];have:=r d hd;rw[eW,f0]at this;rw[lD2,show j+(os.length+1)=j+1+os.length by omega];exact this
 |@op o os σ τ fs xs out hw he hc hd h ih=>
  intro j ft h1 h2 m p q;have f0:ft j={Sim.foot T o.k xs with al:=List.range' σ.s.n ((out.apply σ.s).n-σ.s.n)}:=by have:=h1 0 (by simp);simpa using this.symm
  obtain⟨D,r⟩:=ih (j+1) ft (fun i hi=>by have:=h1 (i+1) (by simp;omega);simpa[lE2,lU2 1 i]using this) (fun i o y=>by have:=h2 (i+1) o (by simpa using y);simpa[lE2,lU2 1 i]using this) m
   (fun i k hi hk=>by
    by_cases e:i=j;subst e;have:=h2 0 o rfl;rw[lY2,hk]at this;cases this;rw[f0];exact Kt hc hd;exact p i k (by omega) hk)
   (fun i hi=>by
    by_cases e:i=j;subst e;exact⟨_,by have:=h2 0 o rfl;simpa using this,nF _ _ _⟩;exact q i (by omega))
  have C:(Sim.foot T o.k xs).all=0:=by
   cases hk:o.k<;>simp[hk,gK]at hc<;>(rcases xs with _|⟨a,_|⟨b,_|⟨c,t⟩⟩⟩<;>rfl)
  have z:¬(Sim.foot T o.k xs).all=1:=by omega
  have w:¬(Sim.foot T o.k xs).all=3:=by omega
  refine⟨D,fun d E=>?_⟩;simp only[cQ,hw,kR2,he];rw[jU2 z,jU2 w,Ks hc hd];simp only;have:=r d E;rw[eW,f0]at this;rw[lD2,show j+(os.length+1)=j+1+os.length by omega];exact this
 |@ncall o os σ τ fs xs v s' hw he hf hk hs h ih=>
  intro j ft h1 h2 m p q;have f0:ft j={Sim.foot T o.k xs with al:=List.range' σ.s.n (s'.n-σ.s.n)}:=by have:=h1 0 (by simp);simpa using this.symm
  obtain⟨D,r⟩:=ih (j+1) ft (fun i hi=>by have:=h1 (i+1) (by simp;omega);simpa[lE2,lU2 1 i]using this) (fun i o y=>by have:=h2 (i+1) o (by simpa using y);simpa[lE2,lU2 1 i]using this) m
   (fun i k hi A=>by
    by_cases e:i=j;subst e;have:=h2 0 o rfl;rw[lY2,A]at this;cases this;rw[f0,hk F];exact .inr trivial;exact p i k (by omega) A)
   (fun i hi=>by
    by_cases e:i=j;subst e;exact⟨_,by have:=h2 0 o rfl;simpa using this,nF _ _ _⟩;exact q i (by omega))
  obtain⟨D2,u⟩:=hs;refine⟨max D D2,fun d hd=>?_⟩;simp only[cQ,hw,kR2,he];rw[jU2 (by rw[hf];omega),jU2 (by rw[hf];omega),u d (by omega)];simp only;have:=r d (by omega);rw[eW,f0]at this;rw[lD2,show j+(os.length+1)=j+1+os.length by omega];exact this
 |@call o os σ τ fs xs v hw he hc hk3 hf hs h ih=>
  intro j ft h1 h2 m p q;have f0:ft j={all:=1}:=by have:=h1 0 (by simp);simpa using this.symm
  have x:ks[j]? =some (jU N dr o.k):=by
   have:=h2 0 o rfl;simpa using this
  obtain⟨D,r⟩:=ih (j+1) ft (fun i hi=>by have:=h1 (i+1) (by simp;omega);simpa[lE2,lU2 1 i]using this) (fun i o y=>by have:=h2 (i+1) o (by simpa using y);simpa[lE2,lU2 1 i]using this) m
   (fun i k hi hk=>by
    by_cases e:i=j;subst e;rw[x]at hk;cases hk;rw[f0];exact nO (qS hc) _ rfl;exact p i k (by omega) hk)
   (fun i hi=>by
    by_cases e:i=j;subst e;exact⟨_,x,nF _ _ _⟩;exact q i (by omega))
  obtain⟨D2,u⟩:=hs
  have H:Sim.unseen (before.getD j 0) j (eW ft j)=[]:=by
   refine wS (fun i hi=>?_);obtain⟨k,hk,B⟩:=q i hi;rcases m i j k _ hi hk x (qS hc)with g|g;exact .inl g;right;have f:=p i k hi hk
   have G:iQ k 3=true:=by
    rcases qS (N:=N) (dr:=dr) hc with e|e;rw[e]at g;exact g;rw[e]at g;(match k,B,g with|0,_,_=>rfl|1,_,h|2,_,h|3,_,h|4,_,h|5,_,h=>simp[iQ,eI]at h)
   rcases f with f|f;rw[f]
   match k,B,G,f with
   |0,_,_,f=>rw[f]
   |1,_,_,f=>exact f.2.1
   |2,_,g,_=>simp[iQ,eI]at g
   |3,_,_,f=>rw[f]
   |4,_,g,_=>simp[iQ,eI]at g
   |5,_,g,_=>simp[iQ,eI]at g
  refine⟨max D D2,fun d hd=>?_⟩;simp only[cQ,hw,kR2,he];rw[jX2 (by rw[hf]),H,Sc,u d (by omega) _];simp only;have:=r d (by omega);rw[eW,f0]at this;rw[hf,lD2,show j+(os.length+1)=j+1+os.length by omega];exact this
theorem Fe {ks before:aA Nat} (h:Be ks before=true):∀(i l k k':Nat),i<l->ks[i]? =some k->ks[l]? =some k'->(before.getD l 0).testBit i=true\/iQ k k'=true:=by
 intro i l k k' a hi hl;simp only[Be,jV2,List.mem_range,kE2]at h;have:=h l (jP2.1 hl).1 i a;simpa[List.getD,hi,hl]using this
theorem Tr.draw (e:dr≠0) {before:aA Nat} {os:aA Sim.Op1} {σ τ:St} {fs:aA Foot} (h:Tr T N dr lim os σ fs τ) (n:Be (os.map fun o=>jU N dr o.k) before=true):
  ∃D,∀d,D<=d->∃f,cQ T (exec T d) lim before os 0 [] σ=some (τ,f)/\Sim.drawOK before f f.length=true:=by
 let ft:Nat->Foot:=fun i=>fs.getD i {}
 have b:∀i,i<fs.length->fs[i]? =some (ft i):=fun i hi=>by simp[ft,hi]
 obtain⟨hl,a⟩:=h.feet e;have sp:=Fe n;have c:∀(i:Nat) (o:Sim.Op1),os[i]? =some o->(os.map fun o=>jU N dr o.k)[i]? =some (jU N dr o.k):=fun i o m=>by simp[m]
 obtain⟨D,q⟩:=Tr.foot e (before:=before) (ks:=os.map fun o=>jU N dr o.k) h 0 ft (fun i hi=>by rw[lN2];exact b i hi) (fun i o m=>by rw[lN2];exact c i o m)
  (fun i l k k' g h1 h2 _=>sp i l k k' g h1 h2) (fun i k hi=>by omega) (fun i hi=>by omega)
 refine⟨D,fun d hd=>⟨_,q d hd,?_⟩⟩;rw[lN2,Sim.revF_length];refine sH (fun j r i hi=>?_);have p:os[j]? =some os[j]:=by simp
 have oi:os[i]? =some (os[i]'(by omega)):=by simp
 rcases sp i j _ _ hi (c i _ oi) (c j _ p)with h1|h1;exact .inl h1;right;exact zS (nF _ _ _) (nF _ _ _) h1 (a i _ _ oi (b i (by omega))) (a j _ _ p (b j (by omega)))
def Ni (o:Sim.Op1) (a:Nat):Bool:=match o.k,o.xs with
 |.loadS,[.t b]=>Nat.beq b a
 |.loadA _,[.t b]=>Nat.beq b a
 |.slc ..,.t b::_=>Nat.beq b a
 |_,_=>false
def tkM (o:Sim.Op1):Bool:=match o.k with
 |.buildSl .. |.append .. =>true
 |_=>false
def Pp (o:Sim.Op1) (a:Nat):Bool:=match o.k,o.xs with
 |.store _,[.t b,_]=>Nat.beq b a
 |.mapup ..,[.t b,_,_]=>Nat.beq b a
 |_,_=>false
def Nj (o:Sim.Op1) (a:Nat):Bool:=match o.k,o.dst with
 |.buildSl ..,some d=>Nat.beq d a
 |.append ..,some d=>Nat.beq d a
 |_,_=>false
def nH (a:Nat) (o:Sim.Op1):Bool:=match o.dst with
 |some d=> !Nat.beq d a
 |none=>true
def Se (o:Sim.Op1) (d:Nat):aB Nat:=match o.k,o.xs,o.dst,o.guard with
 |.append ..,.t b::_,some d',none=>if Nat.beq b d=true then some d' else none
 |_,_,_,_=>none
def qU:aA Sim.Op1->Nat->Nat->Bool
 |[],d,a=>Nat.beq d a
 |o::os,d,a=>(nH d o&&qU os d a)||(match Se o d with|some d'=>qU os d' a|none=>false)
def Wv (os:aA Sim.Op1) (o:Sim.Op1) (i a:Nat):Bool:=match o.dst with
 |some d=>Nj o d&&qU (os.drop (i+1)) d a
 |none=>false
def tkS (o:Sim.Op1) (a:Nat):Bool:=match o.k,o.dst with
 |.slc ..,some d=>Nat.beq d a
 |_,_=>false
def Nk (os:aA Sim.Op1) (p:Nat×Nat×Nat×Nat):Bool:=match os[p.1]?,os[p.2.1]? with
 |some o,some q=>((os.drop p.2.1).all (nH p.2.2.2)&&((Ni o p.2.2.1&&(os.drop p.1).all (nH p.2.2.1)&&Pp q p.2.2.2)||(Nj o p.2.2.1&&(os.drop (p.1+1)).all (nH p.2.2.1)&&Ni q p.2.2.2)||(Nat.beq p.2.2.1 p.2.2.2&&tkM o&&Ni q p.2.2.2)||(Wv os o p.1 p.2.2.1&&Ni q p.2.2.2)))||(Ni o p.2.2.1&&(os.drop p.1).all (nH p.2.2.1)&&(Nj q p.2.2.2&&(os.drop (p.2.1+1)).all (nH p.2.2.2)))||(tkS o p.2.2.1&&(os.drop (p.1+1)).all (nH p.2.2.1)&&(Pp q p.2.2.2&&(os.drop p.2.1).all (nH p.2.2.2)))
 |_,_=>false
def Ku (ks before:aA Nat) (ex:aA (Nat×Nat×Nat×Nat)):Bool:=
 (List.range ks.length).all fun j=>(List.range j).all fun i=>(before.getD j 0).testBit i||iQ (ks.getD i 4) (ks.getD j 4)||ex.any fun p=>Nat.beq p.1 i&&Nat.beq p.2.1 j
theorem kS {t:aA AV} {o:Sim.Op1} {a:Nat} {v:AV} (h:nH a o=true):(put t o.dst v)[a]? =t[a]? :=by
 unfold nH at h;unfold put;split;rename_i d hd;rw[hd]at h;simp only[kH2,bG,lB2]at h;rw[kK2 h];rfl
theorem Tr.keep {os:aA Sim.Op1} {σ τ:St} {fs:aA Foot} (h:Tr T N dr lim os σ fs τ) {a:Nat} (b:os.all (nH a)=true):τ.t[a]? =σ.t[a]? :=by
 induction h with
 |nil=>rfl
 |skip hw h ih=>simp only[lO2,jO2]at b;rw[ih b.2,kS b.1]
 |op hw he hc hd h ih=>simp only[lO2,jO2]at b;rw[ih b.2,kS b.1]
 |call hw he hc hk hf hs h ih=>simp only[lO2,jO2]at b;rw[ih b.2,kS b.1]
 |ncall hw he hf hk hs h ih=>simp only[lO2,jO2]at b;rw[ih b.2,kS b.1]
theorem kA1 {L:Nat->aB AO} {n:Nat} {o:Sim.Op1} {a:Nat} {xs:aA AV} {out:Out} (hk:Pp o a=true) (h:doOp L lim n o.k xs=some out):out.new=none:=by
 unfold Pp at hk;split at hk
 .rename_i h1 h2
  rw[h1]at h;unfold doOp at h
  repeat' split at h
  all_goals first|(cases h;done)|(cases h;rfl)|simp_all
 .rename_i h1 h2
  rw[h1]at h;unfold doOp at h
  repeat' split at h
  all_goals first|(cases h;done)|(cases h;rfl)|simp_all
 .cases hk
theorem Nl {t:aA AV} {b:Nat} {r:aA IX} {xs:aA AV} (h:Sim.evs t (.t b::r)=some xs):∃y ys,xs=y::ys/\t[b]? =some y/\Sim.evs t r=some ys:=by
 simp only[Sim.evs,Sim.IX.ev]at h;split at h;rename_i a as h1 h2;cases h;exact⟨a,as,rfl,h1,h2⟩;cases h
theorem nP {s:Hp} {out:Out} {x:AO} (h:out.new=some x):List.range' s.n ((out.apply s).n-s.n)=[s.n]:=by
 have:(out.apply s).n=s.n+1:=by unfold Out.apply;rw[h]
 rw[this,Nat.add_sub_cancel_left];rfl
def Sf (f:Foot) (τ:St) (a:Nat):Prop:=f={}\/∀y,τ.t[a]? =some y->f.rd=Sim.idOf y/\f.wr=[]/\f.al=[]/\f.all=0
def kB1 (f:Foot) (τ:St) (a:Nat):Prop:=f={}\/∀y,τ.t[a]? =some y->f.wr=Sim.idOf y/\f.rd=[]/\f.al=[]/\f.all=0
def Ww (f:Foot) (τ:St) (a:Nat):Prop:=f={}\/∀y,τ.t[a]? =some y->f.all=0/\(∀x∈f.wr,x∈Sim.idOf y)/\∀x∈f.al,x∈Sim.idOf y
theorem Ir {L:Nat->aB AO} {n ty esz:Nat} {s:AV} {new:aA (aA AV)} {out:Out} (h:Sim.appendTo L lim n ty esz s new=some out):
  (∀x∈Sim.idOf s,x∈Sim.idOf out.v)/\(out.new=none\/Sim.idOf out.v=[n]):=by
 unfold Sim.appendTo at h
 repeat' split at h
 all_goals first|(cases h;done)|(cases h;exact⟨fun x a=>a,.inl rfl⟩)|(cases h;exact⟨fun x a=>by simp[Sim.idOf]at a,.inr rfl⟩)
theorem Bf {L:Nat->aB AO} {n:Nat} {o:Sim.Op1} {a:Nat} {xs:aA AV} {out:Out} (hk:Nj o a=true) (h:doOp L lim n o.k xs=some out):
  (foot T o.k xs).all=0/\(∀x∈(foot T o.k xs).wr,x∈Sim.idOf out.v)/\(out.new=none\/Sim.idOf out.v=[n])/\o.dst=some a:=by
 unfold Nj at hk;split at hk;rename_i d h1 h2;rw[h1]at h ⊢;rw[h2,kG2 hk];refine⟨by rcases xs with _|⟨p,_|⟨q,_|⟨r,t⟩⟩⟩<;>rfl,fun x e=>by rcases xs with _|⟨p,_|⟨q,_|⟨r,t⟩⟩⟩<;>simp[foot]at e,.inr ?_,rfl⟩;unfold doOp at h;simp only[jQ2]at h;obtain⟨cs,_,rfl⟩:=h;rfl;rename_i d h1 h2;rw[h1]at h ⊢;rcases xs with _|⟨p,_|⟨q,_|⟨r,t⟩⟩⟩
 simp[doOp]at h;simp[doOp]at h;simp only[doOp]at h;split at h;split at h;rename_i o' c;have:=Ir c
 have b:out=o':=by
  split at h;split at h;cases h;rfl;cases h;cases h;rfl
 subst b;exact⟨rfl,this.1,this.2,by rw[h2,kG2 hk]⟩;cases h;cases h;simp[doOp]at h;cases hk
theorem gE1 {o:Sim.Op1} {a:Nat} {σ:St} {xs:aA AV} (hk:Ni o a=true) (he:Sim.evs σ.t o.xs=some xs):∃y,σ.t[a]? =some y/\foot T o.k xs={rd:=Sim.idOf y}/\jU N dr o.k<=1:=by
 unfold Ni at hk;split at hk;rename_i b h1 h2;rw[h2]at he;obtain⟨y,ys,rfl,d,c⟩:=Nl he;simp only[Sim.evs,jT2]at c;subst c;rw[h1,<-kG2 hk];exact⟨y,d,rfl,by simp[jU]⟩;rename_i b h1 h2;rw[h2]at he;obtain⟨y,ys,rfl,d,c⟩:=Nl he;simp only[Sim.evs,jT2]at c;subst c;rw[h1,<-kG2 hk];exact⟨y,d,rfl,by simp[jU]⟩;rename_i b _ h1 h2;rw[h2]at he;obtain⟨y,ys,rfl,d,c⟩:=Nl he;rw[h1,<-kG2 hk];exact⟨y,d,rfl,by simp[jU]⟩;cases hk
theorem gF1 {o:Sim.Op1} {a:Nat} {σ:St} {xs:aA AV} (hk:Pp o a=true) (he:Sim.evs σ.t o.xs=some xs):∃y,σ.t[a]? =some y/\foot T o.k xs={wr:=Sim.idOf y}:=by
 unfold Pp at hk;split at hk;rename_i b c h1 h2;rw[h2]at he;obtain⟨y,ys,rfl,e,f⟩:=Nl he;rw[h1,<-kG2 hk];exact⟨y,e,rfl⟩;rename_i b c d h1 h2;rw[h2]at he;obtain⟨y,ys,rfl,e,f⟩:=Nl he;rw[h1,<-kG2 hk];exact⟨y,e,rfl⟩;cases hk
theorem lX {o:Sim.Op1} {a:Nat} (h:Ni o a=true\/Pp o a=true\/Nj o a=true):gK o.k=false/\∀xs,(foot T o.k xs).all=0:=by
 have key:∀k:dQ,(k=.loadS\/(∃n,k=.loadA n)\/(∃n,k=.store n)\/(∃a b,k=.mapup a b)\/(∃a b c d e,k=.buildSl a b c d e)\/(∃a b c d e,k=.append a b c d e)\/∃a b c d,k=.slc a b c d)->gK k=false/\∀xs,(foot T k xs).all=0:=by
  intro k hk
  rcases hk with rfl|⟨_,rfl⟩|⟨_,rfl⟩|⟨_,_,rfl⟩|⟨_,_,_,_,_,rfl⟩|⟨_,_,_,_,_,rfl⟩|⟨_,_,_,_,rfl⟩<;>
   exact⟨rfl,fun xs=>by rcases xs with _|⟨p,_|⟨q,_|⟨r,t⟩⟩⟩<;>rfl⟩
 refine key _ ?_;rcases h with h|h|h;unfold Ni at h;split at h;rename_i h1 _;exact .inl h1;rename_i h1 _;exact .inr (.inl ⟨_,h1⟩);rename_i h1 _;exact .inr (.inr (.inr (.inr (.inr (.inr ⟨_,_,_,_,h1⟩)))));cases h;unfold Pp at h;split at h;rename_i h1 _;exact .inr (.inr (.inl ⟨_,h1⟩));rename_i h1 _;exact .inr (.inr (.inr (.inl ⟨_,_,h1⟩)));cases h;unfold Nj at h;split at h;rename_i h1 _;exact .inr (.inr (.inr (.inr (.inl ⟨_,_,_,_,_,h1⟩))));rename_i h1 _;exact .inr (.inr (.inr (.inr (.inr (.inl ⟨_,_,_,_,_,h1⟩)))));cases h
theorem Tr.touch {os:aA Sim.Op1} {σ τ:St} {fs:aA Foot} (h:Tr T N dr lim os σ fs τ):∀(i:Nat) (o:Sim.Op1) (f:Foot) (a:Nat),os[i]? =some o->fs[i]? =some f->
  (Ni o a=true->(os.drop i).all (nH a)=true->Sf f τ a)/\(Pp o a=true->(os.drop i).all (nH a)=true->kB1 f τ a)/\(Nj o a=true->(os.drop (i+1)).all (nH a)=true->Ww f τ a):=by
 induction h with
 |nil=>intro i o f a h;simp at h
 |skip hw h ih=>
  intro i o f a h1 h2;cases i with
  |zero=>simp at h1 h2;subst h1;subst h2;exact⟨fun _ _=>.inl rfl,fun _ _=>.inl rfl,fun _ _=>.inl rfl⟩
  |succ i=>simp at h1 h2;simpa using ih i o f a h1 h2
 |@op o os σ τ fs xs out hw he hc hd h ih=>
  intro i o' f a h1 h2;cases i with
  |zero=>
   simp at h1 h2;subst h1;subst h2;refine⟨fun hk hb=>?_,fun hk hb=>?_,fun hk hb=>?_⟩;simp only[lI2,lO2,jO2]at hb;obtain⟨y,j,d,e⟩:=gE1 (T:=T) (N:=N) (dr:=dr) hk he;refine .inr (fun z b=>?_);rw[h.keep hb.2,kS hb.1,j]at b;cases b;exact⟨by rw[d],by rw[d],nG (dO1 hd e),by rw[d]⟩;simp only[lI2,lO2,jO2]at hb;obtain⟨y,j,d⟩:=gF1 (T:=T) hk he;refine .inr (fun z b=>?_);rw[h.keep hb.2,kS hb.1,j]at b;cases b;exact⟨by rw[d],by rw[d],nG (kA1 hk hd),by rw[d]⟩;obtain⟨j,d,e,m⟩:=Bf (T:=T) hk hd;have hb:os.all (nH a)=true:=by simpa using hb
   have g:∀z,(put σ.t o.dst out.v)[a]? =some z->z=out.v:=fun z b=>by
    rw[m]at b;simp only[put,kN2]at b;split at b;split at b;cases b;rfl;cases b;rename_i l;exact(l trivial).elim
   refine .inr (fun z b=>?_);rw[h.keep hb]at b;have:=g z b;subst this;refine⟨j,d,fun x c=>?_⟩;rcases e with e|e;have:=nG (s:=σ.s) e;simp only at c;rw[this]at c;simp at c;cases hn:out.new with
   |none=>
    have:=nG (s:=σ.s) hn;simp only at c;rw[this]at c;simp at c
   |some w=>
    simp only at c;rw[nP hn]at c;rw[e];exact c
  |succ i=>simp at h1 h2;simpa using ih i o' f a h1 h2
 |@call o os σ τ fs xs v hw he hc hk hf hs h ih=>
  intro i o' f a h1 h2;cases i with
  |zero=>
   simp at h1 h2;subst h1;subst h2;have no:¬(Ni o a=true\/Pp o a=true\/Nj o a=true):=fun k=>by have:=(lX (T:=T) k).1;rw[hc]at this;cases this
   exact⟨fun hk _=>absurd (.inl hk) no,fun hk _=>absurd (.inr (.inl hk)) no,fun hk _=>absurd (.inr (.inr hk)) no⟩
  |succ i=>simp at h1 h2;simpa using ih i o' f a h1 h2
 |@ncall o os σ τ fs xs v s' hw he hf hk hs h ih=>
  intro i o' f a h1 h2;cases i with
  |zero=>
   simp at h1 h2;subst h1;subst h2;have no:¬(Ni o a=true\/Pp o a=true\/Nj o a=true):=fun k=>by have:=(lX (T:=T) k).2 xs;rw[hf]at this;cases this
   exact⟨fun hk _=>absurd (.inl hk) no,fun hk _=>absurd (.inr (.inl hk)) no,fun hk _=>absurd (.inr (.inr hk)) no⟩
  |succ i=>simp at h1 h2;simpa using ih i o' f a h1 h2
theorem Wx {L:Nat->aB AO} {n e:Nat} {lo hi mx:Bool} {xs:aA AV} {out:Out} (h:doOp L lim n (.slc e lo hi mx) xs=some out):∃y,foot T (.slc e lo hi mx) xs={rd:=Sim.idOf y}/\Sim.idOf out.v=Sim.idOf y/\out.new=none:=by
 cases xs with
 |nil=>simp[doOp,Sim.sliceOp]at h
 |cons y ys=>
  refine⟨y,rfl,?_⟩;have h2:(Sim.sliceOp L e lo hi mx (y::ys)).map (fun v=>({v:=v}:Out))=some out:=h;clear h;rw[jQ2]at h2;obtain⟨v,a,rfl⟩:=h2;refine⟨?_,rfl⟩;cases y<;>simp only[Sim.sliceOp]at a<;>(repeat' split at a)<;>first|(cases a;done)|(cases a;rfl)|(simp at a;done)|(simp at a;subst a;simp_all[Sim.idOf])
theorem Tr.touchS {os:aA Sim.Op1} {σ τ:St} {fs:aA Foot} (h:Tr T N dr lim os σ fs τ):∀(i:Nat) (o:Sim.Op1) (f:Foot) (a:Nat),os[i]? =some o->fs[i]? =some f->tkS o a=true->(os.drop (i+1)).all (nH a)=true->Sf f τ a:=by
 induction h with
 |nil=>intro i o f a h;simp at h
 |skip hw h ih=>
  intro i o f a h1 h2 hk hb;cases i with
  |zero=>simp at h1 h2;subst h1;subst h2;exact .inl rfl
  |succ i=>simp at h1 h2;exact ih i o f a h1 h2 hk (by simpa using hb)
 |@op o os σ τ fs xs out hw he hc hd h ih=>
  intro i o' f a h1 h2 hk hb;cases i with
  |zero=>
   simp at h1 h2;subst h1;subst h2;unfold tkS at hk;split at hk;rename_i d q1 q2;rw[q1]at hd;obtain⟨y,g,j,k⟩:=Wx (T:=T) hd;have hb:os.all (nH a)=true:=by simpa using hb
   have c:∀z,(put σ.t o.dst out.v)[a]? =some z->z=out.v:=fun z b=>by
    rw[q2,kG2 hk]at b;simp only[put,kN2]at b;split at b;split at b;cases b;rfl;cases b;rename_i e;exact(e trivial).elim
   refine .inr (fun z b=>?_);rw[h.keep hb]at b;have:=c z b;subst this;rw[q1];exact⟨by rw[g,j],by rw[g],nG k,by rw[g]⟩;cases hk
  |succ i=>simp at h1 h2;exact ih i o' f a h1 h2 hk (by simpa using hb)
 |@call o os σ τ fs xs v hw he hc hk' hf hs h ih=>
  intro i o' f a h1 h2 hk hb;cases i with
  |zero=>
   simp at h1 h2;subst h1;subst h2;unfold tkS at hk;split at hk;rename_i d q1 q2;rw[q1]at hc;cases hc;cases hk
  |succ i=>simp at h1 h2;exact ih i o' f a h1 h2 hk (by simpa using hb)
 |@ncall o os σ τ fs xs v s' hw he hf hk' hs h ih=>
  intro i o' f a h1 h2 hk hb;cases i with
  |zero=>
   simp at h1 h2;subst h1;subst h2;unfold tkS at hk;split at hk;rename_i d q1 q2;rw[q1]at hf;rcases xs with _|⟨x,t⟩<;>exact absurd (show(0:Nat)=2 from hf) (by decide);cases hk
  |succ i=>simp at h1 h2;exact ih i o' f a h1 h2 hk (by simpa using hb)
theorem lY {o:Sim.Op1} {d a:Nat} (h:Se o d=some a):o.guard=none/\o.dst=some a/\Nj o a=true/\∃ty es b zero g r,o.k=.append ty es b zero g/\o.xs=.t d::r:=by
 unfold Se at h;split at h;rename_i h1 h2 c e;split at h;rename_i hb;cases h;refine⟨e,c,?_,_,_,_,_,_,_,h1,by rw[h2,kG2 hb]⟩;unfold Nj;rw[h1,c];exact Nat.beq_refl _;cases h;cases h
theorem Tr.flow {os:aA Sim.Op1} {σ τ:St} {fs:aA Foot} (h:Tr T N dr lim os σ fs τ):∀(d a:Nat),qU os d a=true->∀z,τ.t[a]? =some z->∃y,σ.t[d]? =some y/\∀x∈Sim.idOf y,x∈Sim.idOf z:=by
 induction h with
 |nil=>
  intro d a hf z c;simp only[qU]at hf;rw[kG2 hf];exact⟨z,c,fun x i=>i⟩
 |@skip o os σ τ fs hw h ih=>
  intro d a hf z c;simp only[qU,kE2,jO2]at hf;rcases hf with hf|hf;obtain⟨y,h1,h2⟩:=ih d a hf.2 z c;exact⟨y,by rw[<-h1];exact(kS hf.1).symm,h2⟩;split at hf;rename_i e hs;rw[(lY hs).1]at hw;simp[Sim.wanted]at hw;cases hf
 |@op o os σ τ fs xs out hw he hc hd h ih=>
  intro d a hf z c;simp only[qU,kE2,jO2]at hf;rcases hf with hf|hf;obtain⟨y,h1,h2⟩:=ih d a hf.2 z c;exact⟨y,by rw[<-h1];exact(kS hf.1).symm,h2⟩;split at hf;rename_i e hs;obtain⟨q1,q2,q3,ty,es,b,zero,g,r,q4,q5⟩:=lY hs;obtain⟨l,h1,h2⟩:=ih e a hf z c;obtain⟨m,k,n,p⟩:=Bf (T:=T) q3 hd
  have hv:l=out.v:=by
   have c:=h1;simp only at c;rw[q2]at c;simp only[put,kN2]at c;split at c;split at c;cases c;rfl;cases c;rename_i f;exact(f trivial).elim
  subst hv;rw[q5]at he;obtain⟨y,ys,rfl,j,e2⟩:=Nl he;refine⟨y,j,fun x i=>h2 x (k x ?_)⟩;rw[q4]at hd ⊢;rcases ys with _|⟨w,_|⟨w2,ws⟩⟩
  simp[doOp]at hd;exact i;simp[doOp]at hd;cases hf
 |@call o os σ τ fs xs v hw he hc hk hff hs h ih=>
  intro d a hf z c;simp only[qU,kE2,jO2]at hf;rcases hf with hf|hf;obtain⟨y,h1,h2⟩:=ih d a hf.2 z c;exact⟨y,by rw[<-h1];exact(kS hf.1).symm,h2⟩;split at hf;rename_i e hs;have:=(lX (T:=T) (.inr (.inr (lY hs).2.2.1))).1;rw[hc]at this;cases this;cases hf
 |@ncall o os σ τ fs xs v s' hw he hff hk hs h ih=>
  intro d a hf z c;simp only[qU,kE2,jO2]at hf;rcases hf with hf|hf;obtain⟨y,h1,h2⟩:=ih d a hf.2 z c;exact⟨y,by rw[<-h1];exact(kS hf.1).symm,h2⟩;split at hf;rename_i e hs;have:=(lX (T:=T) (.inr (.inr (lY hs).2.2.1))).2 xs;rw[hff]at this;cases this;cases hf
theorem Tr.touchL {os:aA Sim.Op1} {σ τ:St} {fs:aA Foot} (h:Tr T N dr lim os σ fs τ):∀(i:Nat) (o:Sim.Op1) (f:Foot) (a:Nat),os[i]? =some o->fs[i]? =some f->Wv os o i a=true->Ww f τ a:=by
 induction h with
 |nil=>intro i o f a h;simp at h
 |skip hw h ih=>
  intro i o f a h1 h2 hk;cases i with
  |zero=>simp at h1 h2;subst h1;subst h2;exact .inl rfl
  |succ i=>simp at h1 h2;exact ih i o f a h1 h2 (by simpa[Wv]using hk)
 |@op o os σ τ fs xs out hw he hc hd h ih=>
  intro i o' f a h1 h2 hk;cases i with
  |zero=>
   simp at h1 h2;subst h1;subst h2;unfold Wv at hk;split at hk;rename_i d g;simp only[jO2,List.drop_succ_cons,lI2]at hk;obtain⟨m,n,j,q⟩:=Bf (T:=T) hk.1 hd;refine .inr (fun z e=>?_);obtain⟨y,p,l⟩:=h.flow d a hk.2 z e
   have hv:y=out.v:=by
    have e:=p;simp only at e;rw[g]at e;simp only[put,kN2]at e;split at e;split at e;cases e;rfl;cases e;rename_i k;exact(k trivial).elim
   subst hv;refine⟨m,fun x c=>l x (n x c),fun x c=>l x ?_⟩;rcases j with j|j;have:=nG (s:=σ.s) j;simp only at c;rw[this]at c;simp at c;cases hn:out.new with
   |none=>
    have:=nG (s:=σ.s) hn;simp only at c;rw[this]at c;simp at c
   |some w=>
    simp only at c;rw[nP hn]at c;rw[j];exact c
   cases hk
  |succ i=>simp at h1 h2;exact ih i o' f a h1 h2 (by simpa[Wv]using hk)
 |@call o os σ τ fs xs v hw he hc hk hf hs h ih=>
  intro i o' f a h1 h2 b;cases i with
  |zero=>
   simp at h1 h2;subst h1;subst h2;unfold Wv at b;split at b;simp only[jO2]at b;have:=(lX (T:=T) (.inr (.inr b.1))).1;rw[hc]at this;cases this;cases b
  |succ i=>simp at h1 h2;exact ih i o' f a h1 h2 (by simpa[Wv]using b)
 |@ncall o os σ τ fs xs v s' hw he hf hk hs h ih=>
  intro i o' f a h1 h2 b;cases i with
  |zero=>
   simp at h1 h2;subst h1;subst h2;unfold Wv at b;split at b;simp only[jO2]at b;have:=(lX (T:=T) (.inr (.inr b.1))).2 xs;rw[hf]at this;cases this;cases b
  |succ i=>simp at h1 h2;exact ih i o' f a h1 h2 (by simpa[Wv]using b)
def Kv (τ:St) (p:Nat×Nat×Nat×Nat):Prop:=∃y z,τ.t[p.2.2.1]? =some y/\τ.t[p.2.2.2]? =some z/\∀x∈Sim.idOf y,x∉Sim.idOf z
theorem iY {f g:Foot} {τ:St} {p:Nat×Nat×Nat×Nat} (h:(Sf f τ p.2.2.1/\kB1 g τ p.2.2.2)\/(Ww f τ p.2.2.1/\Sf g τ p.2.2.2)) (m:Kv τ p):Sim.compat0 f g=true:=by
 obtain⟨y,z,hy,l,hd⟩:=m;rcases h with⟨h1,h2⟩|⟨h1,h2⟩
 rcases h2 with rfl|h2;rcases h1 with rfl|h1;rfl;obtain⟨a,b,c,d⟩:=h1 y hy;simp[Sim.compat0,b,c,d];obtain⟨a',b',k,j⟩:=h2 z l;rcases h1 with rfl|h1;simp[Sim.compat0,j];obtain⟨a,b,c,d⟩:=h1 y hy;have:∀x∈g.wr,x∉f.rd:=fun x i e=>by rw[a]at e;rw[a']at i;exact hd x e i
 simpa[Sim.compat0,b,c,d,b',k,j]using this;rcases h2 with rfl|h2;rcases h1 with rfl|h1;rfl;obtain⟨a,b,c⟩:=h1 y hy;simp[Sim.compat0,a];obtain⟨a',b',k,j⟩:=h2 z l;rcases h1 with rfl|h1;simp[Sim.compat0,j];obtain⟨a,b,c⟩:=h1 y hy;have n:∀x∈f.wr,x∉g.rd:=fun x i e=>by rw[a']at e;exact hd x (b x i) e
 have o:∀x∈f.al,x∉g.rd:=fun x i e=>by rw[a']at e;exact hd x (c x i) e
 simpa[Sim.compat0,a,b',k,j]using And.intro n o
theorem Nm {f g:Foot} {τ:St} {p:Nat×Nat×Nat×Nat} (h1:Sf f τ p.2.2.1) (h2:Ww g τ p.2.2.2) (j:Kv τ p):Sim.compat0 f g=true:=by
 obtain⟨y,z,hy,h,hd⟩:=j;rcases h1 with rfl|h1;rcases h2 with rfl|h2;rfl;obtain⟨a',b',i⟩:=h2 z h;simp[Sim.compat0,a'];obtain⟨a,b,c,d⟩:=h1 y hy;rcases h2 with rfl|h2;simp[Sim.compat0,b,c,d];obtain⟨a',b',i⟩:=h2 z h;have:∀x∈g.wr,x∉f.rd:=fun x k e=>by rw[a]at e;exact hd x e (b' x k)
 simpa[Sim.compat0,b,c,d,a']using this
theorem Is {ks before:aA Nat} {ex:aA (Nat×Nat×Nat×Nat)} (h:Ku ks before ex=true):∀(i l k k':Nat),i<l->ks[i]? =some k->ks[l]? =some k'->((before.getD l 0).testBit i=true\/iQ k k'=true)\/∃p∈ex,p.1=i/\p.2.1=l:=by
 intro i l k k' a hi hl;simp only[Ku,jV2,List.mem_range,kE2,List.any_eq_true,jO2]at h;rcases h l (jP2.1 hl).1 i a with h1|⟨p,h1,h2,h3⟩
 exact .inl (by simpa[List.getD,hi,hl]using h1);exact .inr ⟨p,h1,kG2 h2,kG2 h3⟩
theorem Tr.drawX (w:dr≠0) {before:aA Nat} {ex:aA (Nat×Nat×Nat×Nat)} {os:aA Sim.Op1} {σ τ:St} {fs:aA Foot} (h:Tr T N dr lim os σ fs τ) (K:Ku (os.map fun o=>jU N dr o.k) before ex=true)
  (F:ex.all (Nk os)=true) (m:∀p∈ex,Kv τ p):
  ∃D,∀d,D<=d->∃C,cQ T (exec T d) lim before os 0 [] σ=some (τ,C)/\Sim.drawOK before C C.length=true:=by
 let ft:Nat->Foot:=fun i=>fs.getD i {}
 have f:∀i,i<fs.length->fs[i]? =some (ft i):=fun i hi=>by simp[ft,hi]
 obtain⟨hl,g⟩:=h.feet w;have sp:=Is K;have s:∀(i:Nat) (o:Sim.Op1),os[i]? =some o->(os.map fun o=>jU N dr o.k)[i]? =some (jU N dr o.k):=fun i o J=>by simp[J]
 have B:∀p∈ex,∃o q,os[p.1]? =some o/\os[p.2.1]? =some q/\Nk os p=true:=by
  intro p hp;have:=jV2.1 F p hp;have h2:=this;unfold Nk at h2;split at h2
  .rename_i o q r P;exact⟨o,q,r,P,this⟩
  .cases h2
 obtain⟨D,R⟩:=Tr.foot w (before:=before) (ks:=os.map fun o=>jU N dr o.k) h 0 ft (fun i hi=>by rw[lN2];exact f i hi) (fun i o J=>by rw[lN2];exact s i o J)
  (fun i l k k' G h1 h2 H=>by
   rcases sp i l k k' G h1 h2 with r|⟨p,hp,rfl,rfl⟩
   .exact r
   .exfalso
    obtain⟨o,q,u,e2,e⟩:=B p hp;rw[s _ _ e2]at h2;cases h2;unfold Nk at e;rw[u,e2]at e;simp only[jO2,kE2]at e
    have S:Ni q p.2.2.2=true\/Pp q p.2.2.2=true\/Nj q p.2.2.2=true:=by
     rcases e with(e|e)|e
     .rcases e.2 with((h|h)|h)|h
      .exact .inr (.inl h.2)
      .exact .inl h.2
      .exact .inl h.2
      .exact .inl h.2
     .exact .inr (.inr e.2.1)
     .exact .inr (.inl e.2.1)
    have hc:=(lX (T:=T) S).1;revert H hc;cases q.k
    case len n=>simp only[jU];cases Nat.beq n 2<;>simp
    all_goals simp[jU,gK]) (fun i k hi=>by omega) (fun i hi=>by omega)
 refine⟨D,fun d hd=>⟨_,R d hd,?_⟩⟩;rw[lN2,Sim.revF_length];refine sH (fun j U i hi=>?_);have O:os[j]? =some os[j]:=by simp
 have oi:os[i]? =some (os[i]'(by omega)):=by simp
 rcases sp i j _ _ hi (s i _ oi) (s j _ O)with(h1|h1)|⟨p,hp,rfl,rfl⟩
 .exact .inl h1
 .right
  exact zS (nF _ _ _) (nF _ _ _) h1 (g i _ _ oi (f i (by omega))) (g j _ _ O (f j (by omega)))
 .right
  obtain⟨o,q,u,e2,e⟩:=B p hp;unfold Nk at e;rw[u,e2]at e;simp only[jO2,kE2]at e;have L:=h.touch p.1 o _ p.2.2.1 u (f p.1 (by omega));have v:=h.touch p.2.1 q _ p.2.2.2 e2 (f p.2.1 (by omega));rcases e with(e|e)|e
  case inr.inr=>exact fL<|iY (.inl ⟨h.touchS p.1 o _ p.2.2.1 u (f p.1 (by omega)) e.1.1 e.1.2,v.2.1 e.2.1 e.2.2⟩) (m p hp)
  case inr.inl.inr=>exact fL<|Nm (L.1 e.1.1 e.1.2) (v.2.2 e.2.1 e.2.2) (m p hp)
  rcases e.2 with((⟨⟨h1,h2⟩,r⟩|⟨⟨h1,h2⟩,r⟩)|⟨⟨h1,h2⟩,r⟩)|⟨h1,r⟩
  .exact fL<|iY (.inl ⟨L.1 h1 h2,v.2.1 r e.1⟩) (m p hp)
  .exact fL<|iY (.inr ⟨L.2.2 h1 h2,v.1 r e.1⟩) (m p hp)
  .have E:=kG2 h1
   obtain⟨y,z,hy,M,hd⟩:=m p hp;rw[E]at hy;rw[hy]at M;cases M;have A:Sim.idOf y=[]:=List.eq_nil_iff_forall_not_mem.2 (fun x B=>hd x B B)
   have t:(ft p.1).all=0:=by
    have hf:=g p.1 o _ u (f p.1 (by omega));unfold tkM at h2;unfold kR at hf;split at h2
    .rename_i hk
     rw[hk]at hf;rcases hf with hf|hf
     .rw [hf]
     .exact hf.2.2
    .rename_i hk
     rw[hk]at hf;rcases hf with hf|hf
     .rw [hf]
     .exact hf
    .cases h2
   rcases v.1 r e.1 with hg|hg
   .refine fL ?_
    rw[hg];simp[Sim.compat0,t]
   .obtain ⟨a,b,c,d⟩:=hg y hy
    rw[A]at a;refine fL ?_;simp[Sim.compat0,t,a,b,c,d]
  .exact fL<|iY (.inr ⟨h.touchL p.1 o _ p.2.2.1 u (f p.1 (by omega)) h1,v.1 r e.1⟩) (m p hp)
end
end Go.P
namespace Go.P
open Go.Sim (AV AO Hp eO upd St IC IX Ex dQ CK Wf Out doOp gA exec mapO lI tV Gt)
theorem uH {A:Type} {f:A->aB A}:∀{l:aA A},(∀x∈l,f x=some x)->mapO f l=some l
 |[],_=>rfl
 |a::as,h=>by
  have h1:=h a (List.mem_cons_self ..)
  have h2:=uH (f:=f) (l:=as) (fun x b=>h x (mL2 _ b))
  simp only[mapO,h1,h2]
section
variable {L:Nat->Option AO} {n0:Nat}
theorem wT {x:PV} {y:AV} {d:Nat} (h:RC true x y):lI L n0 (d+1) y=some y:=by
 cases h<;>rfl
theorem Bg {Q:PV->AV->Prop} {xs:aA PV} {ys:aA AV} (h:LR Q xs ys) {y:AV} (hy:y∈ys):∃x,x∈xs/\Q x y:=by
 obtain⟨j,a⟩:=kJ2.1 hy;have b:j<xs.length:=by rw[h.1];exact(jP2.1 a).1
 exact⟨xs[j],by simp,h.2 j _ y (by simp) a⟩
theorem zT {xs:aA PV} {ys:aA AV} {d:Nat} (h:LR (RC true) xs ys):mapO (lI L n0 (d+1)) ys=some ys:=
 uH fun y hy=>by
  obtain⟨x,_,a⟩:=Bg h hy
  exact wT a
theorem Wy {rows:aA (aA PV)} {els:aA (aA AV)} {d:Nat} (h:RR rows els):mapO (fun row=>mapO (lI L n0 (d+1)) row) els=some els:=
 uH fun r hr=>by
  obtain⟨j,a⟩:=kJ2.1 hr
  have b:j<rows.length:=by rw[h.1];exact(jP2.1 a).1
  exact zT (h.2 j rows[j] r (by simp) a)
theorem Kw {rows:aA (aA PV)} {els:aA (aA AV)} {d e id ver:Nat} {bx:Bool} {ty:TypeId} (c:n0<=id) (a:L id=some (.arr bx ty e ver els)) (hr:RR rows (els.take rows.length)) (b:rows.length<=els.length):
  lI L n0 (d+2) (.sl e id ver 0 rows.length none)=some (.is e (els.take rows.length)):=by
 have hc:n0<=id/\ver=ver/\0+rows.length<=els.length:=⟨c,rfl,by omega⟩
 show(match L id with
   |some (.arr _ _ e ver' els)=>
    if n0<=id/\ver'=ver/\0+rows.length<=els.length then(mapO (fun row=>mapO (lI L n0 (d+1)) row) ((els.drop 0).take rows.length)).map fun rows=>AV.is e rows else none
   |_=>none)=_
 rw[a];show(if n0<=id/\ver=ver/\0+rows.length<=els.length then(mapO (fun row=>mapO (lI L n0 (d+1)) row) ((els.drop 0).take rows.length)).map fun rows=>AV.is e rows else none)=_
 rw[jX2 hc,lI2,Wy hr];rfl
theorem dP1 {Q Q':PV->AV->Prop} {f:AV->aB AV} (hf:∀x y,Q x y->∃b,f y=some b/\Q' x b):∀{xs:aA PV} {ys:aA AV},LR Q xs ys->∃a,mapO f ys=some a/\LR Q' xs a
 |[],ys,h=>by rw[h.inv_nil];exact⟨[],rfl,.nil⟩
 |x::xs,ys,h=>by
  obtain⟨y,a,rfl,h1,h2⟩:=h.inv_cons
  obtain⟨b,c,d⟩:=hf x y h1
  obtain⟨zs,e,g⟩:=dP1 hf h2
  exact⟨b::zs,by simp only[mapO,c,e],.cons d g⟩
theorem Sh {z:Nat->aB AO} {d:Nat} {f:AV->aB AV} (hf:∀x y,RZ z d x y->∃g,f y=some g/\RC true x g):∀{rows:aA (aA PV)} {els:aA (aA AV)},zH z d rows els->∃c,mapO (fun row=>mapO f row) els=some c/\RR rows c
 |[],els,h=>by
  have:els=[]:=mP2 h.1.symm
  subst this
  exact⟨[],rfl,.nil⟩
 |r::rows,[],h=>by have:=h.1;simp at this
 |r::rows,e::els,h=>by
  obtain⟨e',k,l⟩:=dP1 hf (h.2 0 r e rfl rfl)
  obtain⟨es',m,n⟩:=Sh hf (rows:=rows) (els:=els) ⟨by simpa using h.1,fun i a b j hb=>h.2 (i+1) a b (by simpa using j) (by simpa using hb)⟩
  exact⟨e'::es',by simp only[mapO,k,m],.cons l n⟩
theorem Kx {z:Nat->aB AO} (g:∀id o,z id=some o->n0<=id/\L id=some o):∀(d f:Nat),d<f->∀(x:PV) (y:AV),RZ z d x y->∃j,lI L n0 f y=some j/\RC true x j
 |0,f+1,_,x,y,h=>⟨y,wT h,h⟩
 |d+1,f+1,hd,x,y,h=>by
  rcases h with h|⟨e,rows,id,ver,ty,els,rfl,rfl,h3,h4,h5⟩
  exact⟨y,wT h,h⟩
  have ih:=Kx g d f (by omega)
  have hr:zH z d rows (els.take rows.length):=⟨by simp[Nat.min_eq_left h4],fun i r r' a b=>h5 i r r' a (by
   rw[kY2]at b
   split at b
   exact b
   cases b)⟩
  obtain⟨c,k,l⟩:=Sh (f:=lI L n0 f) (fun x y h=>ih x y h) hr
  obtain⟨z1,z2⟩:=g id _ h3
  refine⟨.is e c,?_,l.is⟩
  show(match L id with
   |some (.arr _ _ e ver' els)=>
    if n0<=id/\ver'=ver/\0+rows.length<=els.length then(mapO (fun row=>mapO (lI L n0 f) row) ((els.drop 0).take rows.length)).map fun rows=>AV.is e rows else none
   |_=>none)=_
  rw[z2]
  show(if n0<=id/\ver=ver/\0+rows.length<=els.length then(mapO (fun row=>mapO (lI L n0 f) row) ((els.drop 0).take rows.length)).map fun rows=>AV.is e rows else none)=_
  rw[jX2 ⟨z1,rfl,by omega⟩,lI2,k]
  rfl
theorem dQ1 {z:Nat->aB AO} (g:∀id o,z id=some o->n0<=id/\L id=some o) {d f e id ver ty:Nat} {rows:aA (aA PV)} {els:aA (aA AV)} (hd:d<f) (c:n0<=id) (b:L id=some (.arr false ty e ver els)) (hr:zH z d rows els):
  ∃a,lI L n0 (f+1) (.sl e id ver 0 rows.length none)=some (.is e a)/\RR rows a:=by
 obtain⟨a,i,j⟩:=Sh (f:=lI L n0 f) (fun x y h=>Kx g d f hd x y h) hr;refine⟨a,?_,j⟩;have hl:=hr.1
 show(match L id with
  |some (.arr _ _ e ver' els)=>
   if n0<=id/\ver'=ver/\0+rows.length<=els.length then(mapO (fun row=>mapO (lI L n0 f) row) ((els.drop 0).take rows.length)).map fun rows=>AV.is e rows else none
  |_=>none)=_
 rw[b];show(if n0<=id/\ver=ver/\0+rows.length<=els.length then(mapO (fun row=>mapO (lI L n0 f) row) ((els.drop 0).take rows.length)).map fun rows=>AV.is e rows else none)=_
 rw[jX2 ⟨c,rfl,by omega⟩,lI2,hl,lX2,i];rfl
theorem Wz {d id ver e o:Nat} {bx:Bool} {ty:TypeId} {esz:Nat} {els:aA (aA AV)} {row:aA AV} (a:L id=some (.arr bx ty esz ver els)) (hr:els[e]? =some row):tV L (d+1) (.ptr id ver e o)=(mapO (tV L d) (row.drop o)).map AV.ip:=by
 simp[tV,a,hr]
theorem gG1 {d:Nat} {f:FuncId} {a b a' b':aA AV} (h1:mapO (tV L d) a=some a') (h2:mapO (tV L d) b=some b'):tV L (d+1) (.fn (.func f) a b)=some (.fn (.func f) a' b'):=by
 simp[tV,h1,h2]
theorem Xa {d:Nat} {a a':aA AV} (h1:mapO (tV L d) a=some a'):tV L (d+1) (.agg a)=some (.agg a'):=by
 simp[tV,h1]
theorem dR1 {x:PV} {y:AV} (h:RK x y):Gt L n0 y=some y:=by
 rcases h with h|⟨cs,cs',rfl,rfl,h⟩
 cases h<;>rfl;simp only[Gt,zT h,kL2]
theorem Si {es:aA (PV×PV)} {es':aA (AV×AV)} (h:EM es es'):mapO (fun(k,x)=>match Gt L n0 k,Gt L n0 x with|some k,some x=>some (k,x)|_,_=>none) es'=some es':=
 uH fun p hp=>by
  obtain⟨j,c⟩:=kJ2.1 hp
  have d:j<es.length:=by rw[h.1];exact(jP2.1 c).1
  obtain⟨h1,h2⟩:=h.2 j es[j] p (by simp) c
  obtain⟨a,b⟩:=p
  simp only[dR1 h1,dR1 h2]
end
section
variable {R:Type} {C:Cx} {n:Nat} {h:aN} {lim:Nat} {s:Hp}
theorem zU:∀{d:Nat} {x:PV} {y:AV},cR d x=true->RC false x y->Sim.closed d y=true
 |0,_,_,h,_=>by simp[cR]at h
 |d+1,x,y,hc,hr=>by
  have all:∀{xs:aA PV} {ys:aA AV},xs.all (cR d)=true->LR (RC false) xs ys->ys.all (Sim.closed d)=true:=by
   intro xs ys c hl;rw[jV2];intro y hy;obtain⟨x,a,b⟩:=Bg hl hy;exact zU (jV2.1 c x a) b
  cases hr with
  |fn h1 h2 v1 v2=>
   simp only[cR,jO2]at hc;simp only[Sim.closed,jO2];exact⟨all hc.1 ⟨h1,v1⟩,all hc.2 ⟨h2,v2⟩⟩
  |agg hl hcc=>
   simp only[cR]at hc;simp only[Sim.closed];exact all hc ⟨hl,hcc⟩
  |tup hl hcc=>
   simp only[cR]at hc;simp only[Sim.closed];exact all hc ⟨hl,hcc⟩
  |_=>rfl
def FzR (L:Nat->aB AO) (d:Nat) (a:PV) (y:AV):Prop:=∃b,tV L d y=some b/\RC false a b/\∀D,Sim.closed D y=true->RC false a y
theorem Ky (m:cA C n h lim s):∀(d:Nat) (x:PV) (y:AV) (K:PV->aB R) (r:R),Az h d x K=some r->RV C x y->∃M,K M=some r/\FzR (Sim.look s.h) (d+1) M y
 |0,x,y,K,r,hk,_=>by unfold Az at hk;exact aD hk
 |d+1,x,y,K,r,hk,hv=>by
  have i:∀(xs:aA PV) (ys:aA AV) (K:aA PV->aB R) (r:R),oF (Az h d) xs K=some r->LR (RV C) xs ys->
    ∃xs' j,K xs'=some r/\mapO (tV (Sim.look s.h) (d+1)) ys=some j/\LR (RC false) xs' j/\((∀y∈ys,∃D,Sim.closed D y=true)->LR (RC false) xs' ys):=by
   intro xs
   induction xs with
   |nil=>
    intro ys K r hk hl;rw[hl.inv_nil];unfold oF at hk;exact⟨[],[],hk,rfl,.nil,fun _=>.nil⟩
   |cons a as ih=>
    intro ys K r hk hl;obtain⟨y,j,rfl,h1,h2⟩:=hl.inv_cons;unfold oF at hk;obtain⟨a',w,b',t,N,O⟩:=Ky m d a y _ r hk h1;obtain⟨B,E,q1,q2,q3,q4⟩:=ih j _ r w h2;refine⟨a'::B,b'::E,q1,by simp only[mapO,t,q2],.cons N q3,fun hc=>?_⟩;obtain⟨D,c⟩:=hc y (by simp);exact .cons (O D c) (q4 fun z p=>hc z (by simp[p]))
  unfold Az at hk;cases x with
  |own k=>
   simp only[dX,jN2]at hk;obtain⟨ob,hg,hk⟩:=hk;cases ob with
   |lst ty e g rows=>
    refine⟨_,hk,?_⟩;rcases kE hv with⟨id,ver,F,len,l,rfl⟩|⟨l,rfl⟩
    obtain⟨_,rfl,hlen,els,q,hr,G,_⟩:=gZ m hg l;subst hlen;refine⟨.is F (els.take rows.length),?_,hr.is,fun D c=>by cases D<;>simp[Sim.closed]at c⟩;exact Kw (d:=4) (kS2 _) q hr G;have:=iX m hg l;subst this;exact⟨_,rfl,.isn,fun _ _=>.isn⟩
   |lz ty e dp rows=>
    cases hb:Nat.ble dp 4 with
    |false=>simp only[hb,kQ2]at hk;exact aD hk
    |true=>
    simp only[hb,kD2]at hk;have hb:=jZ2 hb;refine⟨_,hk,?_⟩;rcases kE hv with⟨id,ver,F,len,l,rfl⟩|⟨l,rfl⟩
    obtain⟨_,_,rfl,hlen,_,els,q,hr⟩:=tO m hg l;subst hlen;obtain⟨A,w,t⟩:=dQ1 (n0:=0) (f:=5) (fun id o p=>⟨kS2 _,(m.hr.zr id o p).1⟩) (by omega) (kS2 _) q hr;exact⟨.is F A,w,t.is,fun D c=>by cases D<;>simp[Sim.closed]at c⟩;have:=sF m hg l;subst this;exact⟨_,rfl,.isn,fun _ _=>.isn⟩
   |_=>exact aD hk
  |zs dp e rows=>
   cases hb:Nat.ble dp 5 with
   |false=>simp only[hb,kQ2]at hk;exact aD hk
   |true=>
   simp only[hb,kD2]at hk;have hb:=jZ2 hb;refine⟨_,hk,?_⟩;have p:=zL hv;obtain⟨S,w,t⟩:=Kx (L:=Sim.look s.h) (n0:=0) (fun id o p=>⟨kS2 _,(m.hr.zr id o p).1⟩) dp 6 (by omega) _ _ p;rcases zM p with(⟨rows',rfl,hr⟩|⟨rfl,rfl⟩)|⟨d',id,ver,ty,els,_,rfl,_,_,_⟩
   exact⟨_,rfl,hr.is,fun _ _=>hr.is⟩;exact⟨_,rfl,.isn,fun _ _=>.isn⟩;exact⟨S,w,t.weak,fun D c=>by cases D<;>simp[Sim.closed]at c⟩
  |map k=>
   simp only[dX,jN2]at hk;obtain⟨ob,hg,hk⟩:=hk;cases ob with
   |mp es=>
    refine⟨_,hk,?_⟩;obtain⟨id,ver,e,len,l,rfl⟩:=sB hv;obtain⟨_,es',q,he⟩:=Fa m hg l;refine⟨.im es',?_,he.er.im,fun D c=>by cases D<;>simp[Sim.closed]at c⟩;simp only[tV,q];exact congrArg (Option.map AV.im) (Si he)
   |_=>exact aD hk
  |ref k o=>
   simp only[dX,jN2]at hk;obtain⟨ob,hg,hk⟩:=hk;cases ob with
   |box cs=>
    obtain⟨w,t⟩:=dG _ _ _ _ hk;obtain⟨id,ver,e,len,l,rfl⟩:=iP hv;obtain⟨_,ty,esz,row,q,hl⟩:=pC m hg l;obtain⟨xs',j,q1,q2,q3,_⟩:=i _ _ _ r t (hl.drop o);refine⟨_,q1,.ip j,?_,.ip q3.1 q3.2,fun D c=>by cases D<;>simp[Sim.closed]at c⟩;rw[Wz q rfl,q2];rfl
   |_=>exact aD hk
  |fn f a b=>
   obtain⟨a',b',rfl,h1,h2⟩:=tN hv;obtain⟨H,u,p1,p2,p3,p4⟩:=i _ _ _ r hk h1;obtain⟨P,J,q1,q2,q3,q4⟩:=i _ _ _ r p1 h2;refine⟨_,q1,.fn (.func f) u J,gG1 p2 q2,.fn p3.1 q3.1 p3.2 q3.2,fun D c=>?_⟩;cases D with
   |zero=>simp[Sim.closed]at c
   |succ D=>
    simp only[Sim.closed,jO2,jV2]at c;have w1:=p4 fun y hy=>⟨D,c.1 y hy⟩
    have w2:=q4 fun y hy=>⟨D,c.2 y hy⟩
    exact .fn w1.1 w2.1 w1.2 w2.2
  |agg cs=>
   obtain⟨cs',rfl,h1⟩:=kP hv;obtain⟨H,u,p1,p2,p3,p4⟩:=i _ _ _ r hk h1;refine⟨_,p1,.agg u,Xa p2,.agg p3.1 p3.2,fun D c=>?_⟩;cases D with
   |zero=>simp[Sim.closed]at c
   |succ D=>
    simp only[Sim.closed,jV2]at c;have w1:=p4 fun y hy=>⟨D,c y hy⟩
    exact .agg w1.1 w1.2
  |v x=>
   rw[dY hv];exact⟨_,hk,_,rfl,.v x,fun _ _=>.v x⟩
  |is e rows=>
   refine⟨_,hk,?_⟩;rcases wJ hv with⟨rows',rfl,hr⟩|⟨rfl,rfl⟩
   exact⟨_,rfl,hr.is,fun _ _=>hr.is⟩;exact⟨_,rfl,.isn,fun _ _=>.isn⟩
  |ip cs=>
   obtain⟨cs',rfl,hl⟩:=zK hv;exact⟨_,hk,_,rfl,.ip hl.1 hl.2,fun _ _=>.ip hl.1 hl.2⟩
  |im es=>
   obtain⟨es',rfl,he⟩:=dK1 hv;exact⟨_,hk,_,rfl,he.im,fun _ _=>he.im⟩
  |_=>exact aD hk
theorem tQ (e:cA C n h lim s):∀(xs:aA PV) (ys:aA AV) (K:aA PV->aB R) (r:R),uF h xs K=some r->LR (RV C) xs ys->
  ∃xs' b,K xs'=some r/\mapO (tV (Sim.look s.h) 6) ys=some b/\LR (RC false) xs' b/\((∀y∈ys,∃D,Sim.closed D y=true)->LR (RC false) xs' ys)
 |[],ys,K,r,hk,hl=>by
  rw[hl.inv_nil]
  exact⟨[],[],hk,rfl,.nil,fun _=>.nil⟩
 |a::as,ys,K,r,hk,hl=>by
  obtain⟨y,b,rfl,h1,h2⟩:=hl.inv_cons
  unfold uF at hk
  obtain⟨a',i,b',j,k,l⟩:=Ky e 5 a y _ r hk h1
  obtain⟨c,d,q1,q2,q3,q4⟩:=tQ e as b _ r i h2
  refine⟨a'::c,b'::d,q1,by simp only[mapO,j,q2],.cons k q3,fun hc=>?_⟩
  obtain⟨D,f⟩:=hc y (by simp)
  exact .cons (l D f) (q4 fun z g=>hc z (by simp[g]))
def lC (T:gA) (f:FuncId) (xs:aA PV) (v:PV):Prop:=
 ∃ifn,T f=some ifn/\ifn.pure=true/\(rY 4 v=true->ifn.frz=true)/\∀ys,LR (RC false) xs ys->∃D,∀d,D<=d->∃y,Sim.runP T (exec T d) f ifn ys=some y/\RC false v y
theorem Sj:∀{d:Nat} {x:PV} {y:AV},rY d x=true->RC false x y->Sim.gnd d y=true
 |0,_,_,h,_=>by simp[rY]at h
 |d+1,x,y,hc,hr=>by
  have all:∀{xs:aA PV} {ys:aA AV},xs.all (rY d)=true->LR (RC false) xs ys->ys.all (Sim.gnd d)=true:=by
   intro xs ys c hl;rw[jV2];intro y hy;obtain⟨x,a,b⟩:=Bg hl hy;exact Sj (jV2.1 c x a) b
  cases hr with
  |v x=>rfl
  |agg hl hcc=>simp only[rY]at hc;simp only[Sim.gnd];exact all hc ⟨hl,hcc⟩
  |tup hl hcc=>simp only[rY]at hc;simp only[Sim.gnd];exact all hc ⟨hl,hcc⟩
  |_=>simp[rY]at hc
theorem Ff {T:gA} {O:qN} (u:∀f xs v,O f xs=some v->lC T f xs v) (w:cA C n h lim s) {f:FuncId} {xs:aA PV} {ys:aA AV} {K:PV->aB R} {r:R} (hk:tK O f xs h K=some r) (p:LR (RV C) xs ys):
  ∃v y,K v=some r/\RC false v y/\(∃ifn,T f=some ifn/\ifn.pure=true)/\∃D,∀d,D<=d->∀m,Sim.callF T (exec T d) lim f ys {h:=s.h,n:=m}=some (y,{h:=s.h,n:=m}):=by
 unfold tK at hk;by_cases hc:xs.all (cR 4)=true;rw[hc,kD2,bL,jN2]at hk;obtain⟨v,hv,hk⟩:=hk;rw[Kq]at hk;obtain⟨ifn,h1,h2,t,l⟩:=u f xs v hv;have i:LR (RC false) xs ys:=⟨p.1,fun j x y a b=>zQ (p.2 j x y a b) (jV2.1 hc x (kA2 a))⟩
 have c:ys.all (Sim.closed 4)=true:=by
  rw[jV2];intro y hy;obtain⟨x,z,A⟩:=Bg i hy;exact zU (jV2.1 hc x z) A
 obtain⟨D,g⟩:=l ys i;obtain⟨y,k,e⟩:=g D (jR2 _);refine⟨v,y,hk,e,⟨ifn,h1,h2⟩,D,fun d hd m=>?_⟩;simp only[Sim.callF,h1,h2,kR2,c,Sim.mono_runP (Sim.mono_le T hd) k,kL2];simp only[Bool.not_eq_true]at hc;rw[hc,kQ2]at hk;obtain⟨xs',q,q1,q2,q3,q4⟩:=tQ w xs ys _ r hk p;rw[bL,jN2]at q1;obtain⟨v,hv,q1⟩:=q1;rw[Kq]at q1;cases hg:rY 4 v with
 |false=>rw[hg]at q1;exact aD q1
 |true=>
  rw[hg,kD2]at q1;obtain⟨ifn,h1,h2,t,l⟩:=u f xs' v hv;by_cases c:ys.all (Sim.closed 4)=true;obtain⟨D,g⟩:=l ys (q4 fun y hy=>⟨4,jV2.1 c y hy⟩);obtain⟨y,k,e⟩:=g D (jR2 _);refine⟨v,y,q1,e,⟨ifn,h1,h2⟩,D,fun d hd m=>?_⟩;simp only[Sim.callF,h1,h2,kR2,c,Sim.mono_runP (Sim.mono_le T hd) k,kL2];obtain⟨D,g⟩:=l q q3;obtain⟨y,k,e⟩:=g D (jR2 _);have o:=Sj hg e;refine⟨v,y,q1,e,⟨ifn,h1,h2⟩,D,fun d hd m=>?_⟩;simp only[Sim.callF,h1,h2,t hg,kR2,q2,Sim.mono_runP (Sim.mono_le T hd) k,o];rw[jU2 c]
end
end Go.P
namespace Go.P
open Go.Sim (AV AO Hp eO upd St IC IX Ex dQ CK Wf Out doOp gA exec)
section
variable {R:Type} {C:Cx} {n:Nat} {h:aN} {lim:Nat} {s:Hp}
def iZ (k:Nat) (C C':Cx):Prop:=(∀j,j≠k->C' j=C j)/\∀id o,C.z id=some o->C'.z id=some o
theorem Fg {C':Cx} {k:Nat} (m:iZ k C C'):∀(d:Nat) (x:PV) (y:AV) (K:PV->aB R) (r:R),cU k d x K=some r->RV C x y->∃q,K q=some r/\RV C' q y
 |0,x,y,K,r,hk,_=>by unfold cU at hk;exact⟨_,hk,.undef⟩
 |d+1,x,y,K,r,hk,hv=>by
  have c:∀(xs:aA PV) (ys:aA AV) (K:aA PV->aB R) (r:R),cU.kills k d xs K=some r->LR (RV C) xs ys->∃xs',K xs'=some r/\LR (RV C') xs' ys:=by
   intro xs
   induction xs with
   |nil=>
    intro ys K r hk hl;rw[hl.inv_nil];unfold cU.kills at hk;exact⟨[],hk,.nil⟩
   |cons a as ih=>
    intro ys K r hk hl;obtain⟨y,p,rfl,h1,h2⟩:=hl.inv_cons;unfold cU.kills at hk;obtain⟨a',t,u⟩:=Fg m d a y _ r hk h1;obtain⟨n,q1,q2⟩:=ih p _ r t h2;exact⟨a'::n,q1,.cons u q2⟩
  have other:∀{pl:aB Pl} {j:Nat},C j=pl->j≠k->C' j=pl:=fun h s=>(m.1 _ s).trans h;unfold cU at hk;cases x with
  |zs d e rows=>exact⟨_,hk,.zs (RZ.mono m.2 (zL hv))⟩
  |zm es=>
   rcases dL1 hv with⟨id,es',rfl,h1,h2⟩|⟨rfl,rfl⟩
   exact⟨_,hk,.zm (m.2 _ _ h1) h2⟩;exact⟨_,hk,.zm0⟩
  |own j=>
   simp only[bG]at hk;by_cases e:j=k;rw[kZ2 e]at hk;exact⟨_,hk,.undef⟩;rw[lH2 e]at hk;refine⟨_,hk,?_⟩;rcases kE hv with⟨id,ver,l,len,hc,rfl⟩|⟨hc,hy⟩
   exact .own (other hc e);exact .ownn (other hc e) hy
  |el j i o=>
   simp only[bG]at hk;by_cases e:j=k;rw[kZ2 e]at hk;exact⟨_,hk,.undef⟩;rw[lH2 e]at hk;obtain⟨id,ver,l,len,hc,rfl⟩:=wK hv;exact⟨_,hk,.el (other hc e)⟩
  |fn f a b=>
   obtain⟨a',b',rfl,h1,h2⟩:=tN hv;obtain⟨g,p1,p2⟩:=c _ _ _ r hk h1;obtain⟨w,q1,q2⟩:=c _ _ _ r p1 h2;exact⟨_,q1,.fn p2.1 q2.1 p2.2 q2.2⟩
  |agg cs=>
   obtain⟨cs',rfl,h1⟩:=kP hv;obtain⟨g,p1,p2⟩:=c _ _ _ r hk h1;exact⟨_,p1,.agg p2.1 p2.2⟩
  |tup cs=>
   obtain⟨cs',rfl,h1⟩:=Il hv;obtain⟨g,p1,p2⟩:=c _ _ _ r hk h1;exact⟨_,p1,.tup p2.1 p2.2⟩
  |ref j o=>
   simp only[bG]at hk;by_cases e:j=k;rw[kZ2 e]at hk;exact⟨_,hk,.undef⟩;rw[lH2 e]at hk;obtain⟨id,ver,l,len,hc,rfl⟩:=iP hv;exact⟨_,hk,.ref (other hc e)⟩
  |map j=>
   simp only[bG]at hk;by_cases e:j=k;rw[kZ2 e]at hk;exact⟨_,hk,.undef⟩;rw[lH2 e]at hk;obtain⟨id,ver,l,len,hc,rfl⟩:=sB hv;exact⟨_,hk,.map (other hc e)⟩
  |yld j=>
   simp only[bG]at hk;by_cases e:j=k;rw[kZ2 e]at hk;exact⟨_,hk,.undef⟩;rw[lH2 e]at hk;obtain⟨id,ver,l,len,hc,rfl⟩:=Bc hv;exact⟨_,hk,.yld (other hc e)⟩
  |v x=>rw[dY hv];exact⟨_,hk,.cl (.v x)⟩
  |is e rows=>exact⟨_,hk,.cl (by cases hv with|cl h=>exact h)⟩
  |ip cs=>exact⟨_,hk,.cl (by cases hv with|cl h=>exact h)⟩
  |im es=>exact⟨_,hk,.cl (by cases hv with|cl h=>exact h)⟩
  |undef=>exact⟨_,hk,.undef⟩
theorem Fh {k:Nat}:∀(d:Nat) (x:PV) (K:PV->aB R) (r:R),cU k d x K=some r->∃g,K g=some r/\∀{C C':Cx} {y:AV},iZ k C C'->RV C x y->RV C' g y
  |d,x,K,r,hk=>by
    have n:∃g,(∀{R:Type} (K:PV->aB R),cU k d x K=K g):=by
      have q:∀(d:Nat) (x:PV),∃g,∀{R:Type} (K:PV->aB R),cU k d x K=K g:=by
        intro d
        induction d with
        |zero=>intro x;exact⟨.undef,fun K=>by unfold cU;rfl⟩
        |succ d ih=>
          have c:∀(xs:aA PV),∃xs',∀{R:Type} (K:aA PV->aB R),cU.kills k d xs K=K xs':=by
            intro xs
            induction xs with
            |nil=>exact⟨[],fun K=>by unfold cU.kills;rfl⟩
            |cons a as ihl=>
              obtain⟨a',h⟩:=ih a;obtain⟨m,p⟩:=ihl;exact⟨a'::m,fun K=>by unfold cU.kills;rw[h,p]⟩
          intro x;cases x with
          | own j => by_cases e:j=k
                     exact⟨.undef,fun K=>by unfold cU;simp[bG,e]⟩;exact⟨.own j,fun K=>by unfold cU;simp[bG,e]⟩
          | el j i o => by_cases e:j=k
                        exact⟨.undef,fun K=>by unfold cU;simp[bG,e]⟩;exact⟨.el j i o,fun K=>by unfold cU;simp[bG,e]⟩
          | ref j o => by_cases e:j=k
                       exact⟨.undef,fun K=>by unfold cU;simp[bG,e]⟩;exact⟨.ref j o,fun K=>by unfold cU;simp[bG,e]⟩
          |zs d e rows=>exact⟨.zs d e rows,fun K=>by unfold cU;rfl⟩
          |zm es=>exact⟨.zm es,fun K=>by unfold cU;rfl⟩
          | map j => by_cases e:j=k
                     exact⟨.undef,fun K=>by unfold cU;simp[bG,e]⟩;exact⟨.map j,fun K=>by unfold cU;simp[bG,e]⟩
          | yld j => by_cases e:j=k
                     exact⟨.undef,fun K=>by unfold cU;simp[bG,e]⟩;exact⟨.yld j,fun K=>by unfold cU;simp[bG,e]⟩
          |fn f a b=>
            obtain⟨a',h⟩:=c a;obtain⟨b',hb⟩:=c b;exact⟨.fn f a' b',fun K=>by unfold cU;simp only[h,hb]⟩
          |agg cs=>
            obtain⟨a',h⟩:=c cs;exact⟨.agg a',fun K=>by unfold cU;simp only[h]⟩
          |tup cs=>
            obtain⟨a',h⟩:=c cs;exact⟨.tup a',fun K=>by unfold cU;simp only[h]⟩
          |v x=>exact⟨.v x,fun K=>by unfold cU;rfl⟩
          |is e rows=>exact⟨.is e rows,fun K=>by unfold cU;rfl⟩
          |ip cs=>exact⟨.ip cs,fun K=>by unfold cU;rfl⟩
          |im es=>exact⟨.im es,fun K=>by unfold cU;rfl⟩
          |undef=>exact⟨.undef,fun K=>by unfold cU;rfl⟩
      exact q d x
    obtain⟨g,l⟩:=n;refine⟨g,by rw[<-hk];exact(l K).symm,fun{C C' y} s hv=>?_⟩;obtain⟨t,h1,h2⟩:=Fg (R:=PV) s d x y some g (l some) hv;cases h1;exact h2
def kC1 (k:Nat) (e e':dS):Prop:=∀i v',dK e' i=some v'->∃v,dK e i=some v/\∀{C C':Cx} {y:AV},iZ k C C'->RV C v y->RV C' v' y
theorem iC {k:Nat}:∀(e:dS) (K:dS->aB R) (r:R),mC k e K=some r->∃e',K e'=some r/\kC1 k e e'
 |[],K,r,hk=>⟨[],hk,fun i v h=>by simp[dK]at h⟩
 |(j,v)::t,K,r,hk=>by
  unfold mC at hk
  obtain⟨v',a,c⟩:=Fh 3 v _ r hk
  obtain⟨b,q1,q2⟩:=iC t _ r a
  refine⟨(j,v')::b,q1,fun i w hw=>?_⟩
  simp only[dK]at hw ⊢
  split at hw
  grind
  rename_i e;rw[jU2 e];exact q2 i w hw
def wU (k:Nat) (h h':aN):Prop:=(∀j,aK h' j=none↔aK h j=none)/\∀j o',aK h' j=some o'->∃o,aK h j=some o/\eE o'=eE o/\
 ∀{C C':Cx} {L:Nat->aB AO} {lim nS:Nat} {pl:Pl},iZ k C C'->iA C L lim nS o pl->iA C' L lim nS o' pl
theorem wV {k d:Nat}:∀(xs:aA PV) (K:aA PV->aB R) (r:R),cU.kills k d xs K=some r->∃xs',K xs'=some r/\∀{C C':Cx} {ys:aA AV},iZ k C C'->LR (RV C) xs ys->LR (RV C') xs' ys
 |[],K,r,hk=>by
  unfold cU.kills at hk
  exact⟨[],hk,fun _ hl=>by rw[hl.inv_nil];exact .nil⟩
 |a::as,K,r,hk=>by
  unfold cU.kills at hk
  obtain⟨a',e,f⟩:=Fh d a _ r hk
  obtain⟨b,q1,q2⟩:=wV as _ r e
  refine⟨a'::b,q1,fun c hl=>?_⟩
  obtain⟨y,g,rfl,h1,h2⟩:=hl.inv_cons
  exact .cons (f c h1) (q2 c h2)
theorem gH1 {C C':Cx} {fs b:aA PV} {els:aA (aA AV)} (h:∀{ys:aA AV},LR (RV C) fs ys->LR (RV C') b ys) (hl:els.length=fs.length) (hr:∀(i:Nat) (f:PV) (row:aA AV),fs[i]? =some f->els[i]? =some row->LR (RV C) [f] row):
  fs.length=b.length/\els.length=b.length/\∀(i:Nat) (f:PV) (row:aA AV),b[i]? =some f->els[i]? =some row->LR (RV C') [f] row:=by
 have hy:=h (ys:=els.map fun r=>r.headD default) ⟨by simp[hl],fun j x y l hy=>by
  simp only[kV2,jQ2]at hy;obtain⟨row,a,rfl⟩:=hy;obtain⟨y,e,rfl,g,k⟩:=(hr j x row l a).inv_cons;exact g⟩
 have hlen:b.length=els.length:=by simpa using hy.1
 refine⟨by omega,by omega,fun i f row hf a=>?_⟩
 have d:∃f0,fs[i]? =some f0:=by
  have:=(jP2.1 a).1;exact⟨fs[i]'(by omega),by simp⟩
 obtain⟨f0,c⟩:=d;obtain⟨y,e,rfl,g,k⟩:=(hr i f0 row c a).inv_cons;rw[k.inv_nil];exact .cons (hy.2 i f y hf (by simp[kV2,a])) .nil
theorem jE {k:Nat}:∀(h:aN) (K:aN->aB R) (r:R),iK k h K=some r->∃h',K h'=some r/\wU k h h'
 |[],K,r,hk=>⟨[],hk,fun j=>Iff.rfl,fun j o h=>by simp[aK]at h⟩
 |(j,o)::t,K,r,hk=>by
  have fin:∀(o':fG),iK k t (fun r=>K ((j,o')::r))=some r->eE o'=eE o->(∀{C C':Cx} {L:Nat->aB AO} {lim nS:Nat} {pl:Pl},iZ k C C'->iA C L lim nS o pl->iA C' L lim nS o' pl)->∃h',K h'=some r/\wU k ((j,o)::t) h':=by
   intro o' hk hb d;obtain⟨z,q1,q2,q3⟩:=jE t _ r hk;refine⟨(j,o')::z,q1,fun i=>?_,fun i w hw=>?_⟩;simp only[aK];split;simp;exact q2 i;simp only[aK]at hw ⊢;split at hw
   grind
   grind
  unfold iK at hk;cases o with
  |box cs=>
   obtain⟨cs',q,s⟩:=wV cs _ r hk;refine fin _ q rfl (fun{C C' L lim nS pl} f d=>?_);cases pl with
   |nil=>exact d
   |atp id ver e len=>
    obtain⟨h1,h2,ty,esz,row,l,m⟩:=d;exact⟨h1,h2,ty,esz,row,l,s f m⟩
  |lst ty e g rows=>exact fin _ hk rfl (fun{C C' L lim nS pl} f d=>by cases pl<;>exact d)
  |lz ty e dp rows=>
   refine fin _ hk rfl (fun{C C' L lim nS pl} f d=>?_);cases pl with
   |nil=>exact d
   |atp id ver e3 len=>
    obtain⟨h1,h2,l,m,n,els,p,u⟩:=d;exact⟨h1,h2,l,m,n,els,p,u.mono f.2⟩
  |mp es=>exact fin _ hk rfl (fun{C C' L lim nS pl} f d=>by cases pl<;>exact d)
  |fl fs=>
   obtain⟨x,q,s⟩:=wV fs _ r hk;refine fin _ q rfl (fun{C C' L lim nS pl} f d=>?_);cases pl with
   |nil=>exact d
   |atp id ver e len=>
    obtain⟨h1,h2,l,m,ty,els,n,p,u⟩:=d;obtain⟨a,b,c⟩:=gH1 (s f) p u;exact⟨h1,h2,l,by rw[m,a],ty,els,n,b,c⟩
  |loop N e ps a b busy fi=>
   obtain⟨e',q,s⟩:=iC e _ r hk;refine fin _ q rfl (fun{C C' L lim nS pl} f d=>?_);cases pl with
   |nil=>exact d
   |atp id ver e3 len=>
    obtain⟨h1,h2,st,pend,tmps,l,m,n,p⟩:=d;refine⟨h1,h2,st,pend,tmps,l,m,fun i v hv=>?_,p⟩;obtain⟨w,w1,w2⟩:=s i v hv;obtain⟨y,A,B⟩:=n i w w1;exact⟨y,A,w2 f B⟩
theorem Sl (c:cA C n h lim s) {e:Nat} {x:PV} {y:AV} {K:aA (aA PV)->aB R} {r:R} (hk:Rj h e x K=some r) (hv:RV C x y):∃rows rows',K rows=some r/\Sim.rowsOf (Sim.look s.h) e y=some rows'/\RR rows rows':=by
 unfold Rj at hk;split at hk;rename_i e' rows;rw[bG]at hk;by_cases a:e'=e;subst a;rw[kZ2 rfl,kD2]at hk;rcases Kr hv with⟨rows',rfl,hr⟩|⟨rfl,rfl|rfl⟩
 exact⟨rows,rows',hk,by simp[Sim.rowsOf],hr⟩;exact⟨[],[],hk,rfl,.nil⟩;exact⟨[],[],hk,rfl,.nil⟩
 grind
 rename_i k;simp only[dX,jN2]at hk;obtain⟨ob,hg,hk⟩:=hk;cases ob with
 |lst ty e' g rows=>
  simp only[bG]at hk;by_cases a:e'=e;subst a;rw[kZ2 rfl,kD2]at hk;rcases gJ hv with⟨id,ver,i,len,b,rfl⟩|⟨b,hy⟩
  obtain⟨_,rfl,hlen,els,d,hr,f,_⟩:=gZ c hg b;subst hlen;refine⟨rows,els.take rows.length,hk,?_,hr⟩;simp only[Sim.rowsOf,d];rw[jX2 ⟨by trivial,by trivial,by omega⟩,lI2];have:=iX c hg b;subst this;rcases hy with rfl|rfl;exact⟨[],[],hk,rfl,.nil⟩;exact⟨[],[],hk,rfl,.nil⟩
  grind
 |_=>exact aD hk
 rw[dY hv];exact⟨[],[],hk,rfl,.nil⟩;exact aD hk
def mv (C:Cx) (k:Nat) (pl:Pl):Cx:=⟨fun j=>if j=k then some pl else C j,C.z⟩
theorem fA (C:Cx) (k:Nat) (pl:Pl):iZ k C (mv C k pl):=⟨fun j a=>jU2 a,fun _ _ h=>h⟩
theorem oN (C:Cx) (k:Nat) (pl:Pl):mv C k pl k=some pl:=jX2 rfl
theorem iZ.self {k:Nat} {C:Cx}:iZ k C C:=⟨fun _ _=>rfl,fun _ _ h=>h⟩
theorem Bh {k:Nat} {po po':fG} {h1:aN} {C':Cx} (hg:aK h k=some po) (hkl:wU k h h1) (hb:eE po'=false) (c:iZ k C C'):
  ∀j o,aK h j=some o->∃o',aK (dW h1 k po') j=some o'/\(eE o'=true->eE o=true/\C' j=C j):=by
 intro j o a
 have d:(aK h1 k).isSome=true:=by
  cases hc:aK h1 k with
  |none=>rw[(hkl.1 k).1 hc]at hg;cases hg
  |some o=>rfl
 rw[eS];by_cases b:j=k
 grind
 rw[jU2 (fun h=>b h.1)];cases hc:aK h1 j with
 |none=>rw[(hkl.1 j).1 hc]at a;cases a
 |some o'=>
  obtain⟨f,q1,e,_⟩:=hkl.2 j o' hc;rw[a]at q1;cases q1;exact⟨o',rfl,fun h=>⟨by rw[<-e];exact h,c.1 j b⟩⟩
theorem Fi (p:cA C n h lim s) {k id ver e len} {po po2:fG} {h1:aN} {s':Hp} (hg:aK h k=some po) (hkl:wU k h h1)
  (hs:s.n<=s'.n) (hw:Wf s'.h s'.n) (A:Sk s.h s'.h s.n) (b:∀i,i<s.n->i≠id->Sim.look s'.h i=Sim.look s.h i) (a:s.n<=id\/∃v e l,C k=some (.atp id v e l))
  (F:iA (mv C k (.atp id ver e len)) (Sim.look s'.h) lim s'.n po2 (.atp id ver e len)) (hfx:eE po2=false):
  cA (mv C k (.atp id ver e len)) n (dW h1 k po2) lim s'/\Fr C h s (mv C k (.atp id ver e len)) (dW h1 k po2) s':=by
 have y:(aK h1 k).isSome=true:=by
  cases hc:aK h1 k with
  |none=>rw[(hkl.1 k).1 hc]at hg;cases hg
  |some o=>rfl
 have f:∀j,aK (dW h1 k po2) j=if j=k then some po2 else aK h1 j:=fun j=>by
  rw[eS];simp[y]
 have c:∀j,aK (dW h1 k po2) j≠none->aK h j≠none:=fun j d=>by
  rw[f]at d;split at d
  grind
  exact fun hc=>d ((hkl.1 j).2 hc)
 have g:∀j v e l,j≠k->aK h j≠none->C j≠some (.atp id v e l):=by
  intro j v e2 l d D hc;rcases a with a|⟨v',e',l',a⟩
  have:=(p.hr.lt D hc).2;omega;exact d (p.hr.inj j k id _ _ _ _ _ _ D (by rw[hg];simp) hc a)
 refine⟨⟨⟨fun j o d=>?_,fun j q i v1 m x v2 e2 H a1 a2 a3 a4=>?_,fun i o G=>?_⟩,fun j pl d=>?_,hw,kP2 p.lim hs⟩,⟨A,hs,fun i hi z=>b i hi (fun m=>z ?_),fun i hi z=>?_,Bh hg hkl hfx (fA C k _),fun _ _ h=>h,fun _ _ h=>.inl h⟩⟩;rw[f]at d;split at d;rename_i m;subst m;cases d;exact⟨_,oN C j _,F⟩;rename_i u;obtain⟨J,q1,K,q2⟩:=hkl.2 j o d;obtain⟨pl,t,w⟩:=p.hr.ob j J q1;refine⟨pl,((fA C k _).1 j u).trans t,?_⟩;have E:iA (mv C k (.atp id ver e len)) (Sim.look s.h) lim s.n o pl:=q2 (fA C k _) w;refine E.mono hs (.refl _) (fun i v1 m x hp=>?_);subst hp;exact b i E.lt.2 (fun e2=>by subst e2;exact g j _ _ _ u (by rw[q1];simp) t);by_cases b1:j=k;by_cases b2:q=k;rw[b1,b2];exfalso;subst b1;rw[oN]at a3;cases a3;rw[(fA C j _).1 q b2]at a4;exact g q _ _ _ b2 (c q a2) a4;by_cases b2:q=k;exfalso;subst b2;rw[oN]at a4;cases a4;rw[(fA C q _).1 j b1]at a3;exact g j _ _ _ b1 (c j a1) a3;rw[(fA C k _).1 j b1]at a3;rw[(fA C k _).1 q b2]at a4;exact p.hr.inj j q i v1 m x v2 e2 H (c j a1) (c q a2) a3 a4;obtain⟨z1,z2,z3,z4⟩:=p.hr.zr i o G;have r:i≠id:=fun m=>by grind
 refine⟨(b i z2 r).trans z1,lS2 z2 hs,fun j v e' l h1 h2=>?_,z4⟩;by_cases b1:j=k;subst b1;rw[oN]at h2;cases h2;exact r rfl;exact z3 j v e' l (c j h1) (((fA C k _).1 j b1).symm.trans h2);by_cases b1:j=k;subst b1;obtain⟨B,t,_⟩:=p.hr.ob j _ hg;exact p.dom j B t;exact p.dom j pl (((fA C k _).1 j b1).symm.trans d);subst m;rcases a with a|⟨v',e',l',a⟩
 omega;exact⟨k,v',e',l',by rw[hg];simp,a⟩;obtain⟨j,v1,m,x,t,w⟩:=z;by_cases b1:j=k;subst b1;rw[oN]at w;cases w;rcases a with a|⟨v',e',l',a⟩
 omega;exact⟨j,v',e',l',by rw[hg];simp,a⟩;exact⟨j,v1,m,x,c j t,((fA C k _).1 j b1).symm.trans w⟩
end
end Go.P
namespace Go.P
open Go.Sim (AV AO Hp eO upd St IC IX Ex dQ CK Wf Out doOp gA exec)
theorem cP.mono {C C':Cx} {e:dS} {t:aA AV} (h:cP C e t) (a:C.le C'):cP C' e t:=fun i v hv=>by
 obtain⟨y,h1,h2⟩:=h i v hv
 exact⟨y,h1,h2.mono a⟩
theorem cP.put {C':Cx} {e':dS} {t:aA AV} {d:Nat} {v:PV} {y:AV} (hd:d<t.length) (hv:RV C' v y) (he:∀i w,dK e' i=some w->∃z,t[i]? =some z/\RV C' w z/\i≠d):cP C' ((d,v)::e') (t.set d y):=by
 intro i w hw;simp only[dK]at hw;split at hw
 grind
 grind
theorem cP.edel {C:Cx} {e:dS} {t:aA AV} (h:cP C e t) (is:aA Nat):∀i w,dK (edel e is) i=some w->∃z,t[i]? =some z/\RV C w z/\i∉is:=fun i w hw=>by
 rw[rZ]at hw
 split at hw
 cases hw
 rename_i hi
 obtain⟨z,h1,h2⟩:=h i w hw
 exact⟨z,h1,h2,hi⟩
section
variable {R:Type} {C:Cx} {n:Nat} {h:aN} {lim:Nat} {s:Hp}
theorem Kz (d:cA C n h lim s) {k:Nat} {po:fG} {h1:aN} (hg:aK h k=some po) (hkl:wU k h h1) (hb:eE po=false):cA C n (dW h1 k po) lim s/\Fr C h s C (dW h1 k po) s:=by
 have g:(aK h1 k).isSome=true:=by
  cases hc:aK h1 k with
  |none=>rw[(hkl.1 k).1 hc]at hg;cases hg
  |some o=>rfl
 have a:∀j,aK (dW h1 k po) j=if j=k then some po else aK h1 j:=fun j=>by
  rw[eS];simp[g]
 have b:∀j,aK (dW h1 k po) j≠none->aK h j≠none:=fun j c=>by
  rw[a]at c;split at c
  grind
  exact fun hc=>c ((hkl.1 j).2 hc)
 refine⟨⟨⟨fun j o c=>?_,fun j r i v1 f q v2 e2 w a1 a2 a3 a4=>d.hr.inj j r i v1 f q v2 e2 w (b j a1) (b r a2) a3 a4,fun i o u=>?_⟩,d.dom,d.wf,d.lim⟩,⟨.refl _ _,jR2 _,fun _ _ _=>rfl,fun i hi t=>?_,Bh hg hkl hb iZ.self,fun _ _ h=>h,fun _ _ h=>.inl h⟩⟩;rw[a]at c;split at c;rename_i f;subst f;cases c;exact d.hr.ob j _ hg;obtain⟨x,q1,y,q2⟩:=hkl.2 j o c;obtain⟨pl,m,p⟩:=d.hr.ob j x q1;exact⟨pl,m,q2 iZ.self p⟩;obtain⟨z1,z2,z3,z4⟩:=d.hr.zr i o u;exact⟨z1,z2,fun j v e l h1 h2=>z3 j v e l (b j h1) h2,z4⟩;obtain⟨j,v1,f,q,m,p⟩:=t;exact⟨j,v1,f,q,b j m,p⟩
theorem Nn (c:cA C n h lim s) {e dp:Nat} {x:PV} {y:AV} {K:aA (aA PV)->aB R} {r:R} (hk:Kj h e dp x K=some r) (hv:RV C x y):∃rows rows',K rows=some r/\Sim.rowsOf (Sim.look s.h) e y=some rows'/\zH C.z dp rows rows':=by
 unfold Kj at hk;split at hk;rename_i e' rows;rw[bG]at hk;by_cases a:e'=e;subst a;rw[kZ2 rfl,kD2]at hk;rcases Kr hv with⟨rows',rfl,hr⟩|⟨rfl,rfl|rfl⟩
 exact⟨rows,rows',hk,by simp[Sim.rowsOf],hr.z⟩;exact⟨[],[],hk,rfl,.nil⟩;exact⟨[],[],hk,rfl,.nil⟩
 grind
 rename_i k;simp only[dX,jN2]at hk;obtain⟨ob,hg,hk⟩:=hk;cases ob with
 |lst ty e' g rows=>
  simp only[bG]at hk;by_cases a:e'=e;subst a;rw[kZ2 rfl,kD2]at hk;rcases gJ hv with⟨id,ver,i,len,b,rfl⟩|⟨b,hy⟩
  obtain⟨_,rfl,hlen,els,f,hr,j,_⟩:=gZ c hg b;subst hlen;refine⟨rows,els.take rows.length,hk,?_,hr.z⟩;simp only[Sim.rowsOf,f];rw[jX2 ⟨by trivial,by trivial,by omega⟩,lI2];have:=iX c hg b;subst this;rcases hy with rfl|rfl;exact⟨[],[],hk,rfl,.nil⟩;exact⟨[],[],hk,rfl,.nil⟩
  grind
 |lz ty e' dp' rows=>
  simp only at hk;cases hc:(Nat.beq e' e&&Nat.ble dp' dp)with
  |false=>rw[hc]at hk;exact aD hk
  |true=>
   rw[hc,kD2]at hk;simp only[jO2]at hc;have a:=kG2 hc.1;have e2:=jZ2 hc.2;subst a;rcases gJ hv with⟨id,ver,i,len,b,rfl⟩|⟨b,hy⟩
   obtain⟨_,_,rfl,hlen,_,els,f,hr⟩:=tO c hg b;subst hlen;refine⟨rows,els,hk,?_,hr.up e2⟩;have hl:=hr.1;simp only[Sim.rowsOf,f];rw[jX2 ⟨by trivial,by trivial,by omega⟩,lI2,hl,lX2];have:=sF c hg b;subst this;rcases hy with rfl|rfl;exact⟨[],[],hk,rfl,.nil⟩;exact⟨[],[],hk,rfl,.nil⟩
 |_=>exact aD hk
 rename_i d e' rows;cases hc:(Nat.beq e' e&&Nat.ble d (dp+1))with
 |false=>rw[hc]at hk;exact aD hk
 |true=>
  rw[hc,kD2]at hk;simp only[jO2]at hc;have a:=kG2 hc.1;have e2:=jZ2 hc.2;subst a;rcases zM (zL hv)with(⟨rows',rfl,hr⟩|⟨rfl,rfl⟩)|⟨d',id,ver,ty,els,rfl,rfl,hz,hl,hr⟩
  exact⟨rows,rows',hk,by simp[Sim.rowsOf],hr.z⟩;exact⟨[],[],hk,rfl,.nil⟩;refine⟨rows,els.take rows.length,hk,?_,hr.up (by omega)⟩;simp only[Sim.rowsOf,(c.hr.zr id _ hz).1];rw[jX2 ⟨by trivial,by trivial,by omega⟩,lI2]
 rw[dY hv];exact⟨[],[],hk,rfl,.nil⟩;exact aD hk
theorem Sm (l:cA C n h lim s) {e:dS} {t:aA AV} {d ty es b k ty' es' dp:Nat} {rows:aA (aA PV)} {zero:aA Value} {kill:aA Nat} {V:PV} {A S:AV} {K:dS->aN->aB R} {r:R} (he:cP C e t) (hd:d<t.length) (h1:RV C (.own k) A) (h2:RV C V S)
  (hg:aK h k=some (.lz ty' es' dp rows))
  (hk:(Kj h es dp V fun new=>bif Nat.beq es' es&&(Nat.beq ty' ty&& !(fE ty'))then bS (appRows false rows new) fun rows=>
    gE e (d::kill) fun e=>mC k e fun e=>iK k h fun h=>fO h k (.lz ty' es' dp rows) fun h=>K ((d,.own k)::e) h
   else none)=some r):
  ∃C' e' h' out,K e' h'=some r/\doOp (Sim.look s.h) lim s.n (.append ty es b zero false) [A,S]=some out/\cA C' n h' lim (out.apply s)/\cP C' e' (t.set d out.v)/\Fr C h s C' h' (out.apply s):=by
 have hz:=Nn l hk h2;clear hk;obtain⟨new,a,hk,O,o⟩:=hz;by_cases hc:(Nat.beq es' es&&(Nat.beq ty' ty&& !(fE ty')))=true;simp only[hc,kD2,bL,jN2]at hk;simp only[jO2,bG,jY2,kH2]at hc;obtain⟨rfl,rfl,hfx⟩:=hc;obtain⟨y,c,hk⟩:=hk;rw[dL]at hk;obtain⟨e2,hk,M⟩:=iC _ _ _ hk;obtain⟨X,hk,u⟩:=jE _ _ _ hk;have hk:=dH _ _ _ _ _ hk;unfold appRows at c;split at c;rename_i P;obtain rfl:rows++new=y:=mX2 c
 have m:∀{C':Cx},iZ k C C'->∀i w,dK e2 i=some w->∃z,t[i]? =some z/\RV C' w z/\i≠d:=by
  intro C' j i w hw;obtain⟨v,q1,q2⟩:=M i w hw;obtain⟨z,p1,p2,p3⟩:=he.edel (d::kill) i v q1;exact⟨z,p1,q2 j p2,fun W=>p3 (by simp[W])⟩
 have q:∀out,Sim.appendTo (Sim.look s.h) lim s.n ty' es' A a=some out->(∀z id ver off len cap,out.v=.sl z id ver off len cap->len<=Sim.maxRoom)->doOp (Sim.look s.h) lim s.n (.append ty' es' b zero false) [A,S]=some out:=by
  intro out Y hl;simp only[doOp,Sim.appRows,kB2,kU2,O,Y];split;rename_i hv;rw[jX2 ⟨hl _ _ _ _ _ _ hv,by rw[<-o.1];omega⟩];rfl
 have hlen:=o.1;by_cases D:a=[];subst D;have E:new=[]:=by simpa using hlen
 subst E;rw[mR2]at hk;obtain⟨F,G⟩:=Kz l hg u rfl;refine⟨C,_,_,{v:=A},hk,q _ ?_ ?_,F,.put hd h1 (m iZ.self),G⟩;rcases gJ h1 with⟨id,ver,g,len,j,rfl⟩|⟨j,hy⟩
 obtain⟨f,_,rfl,hl,_,els,H,hr⟩:=tO l hg j;have:=hr.1;simp only[Sim.appendTo,H];rw[jX2 ⟨by trivial,by trivial,by trivial,by omega⟩];rfl;rcases hy with rfl|rfl<;>rfl;intro z id ver off len cap hv;rcases gJ h1 with⟨id',U,g,T,j,rfl⟩|⟨j,hy⟩
 obtain⟨f,_,rfl,hl,_⟩:=tO l hg j;cases hv;omega
 grind
 have p:a.isEmpty=false:=by cases a<;>simp_all
 rcases gJ h1 with⟨id,ver,g,len,j,rfl⟩|⟨j,hy⟩
 obtain⟨f,L,rfl,hl,_,els,H,hr⟩:=tO l hg j;subst hl;have Z:=hr.1
 have J:Sim.appendTo (Sim.look s.h) lim s.n ty' g (.sl g id ver 0 rows.length none) a=some {v:=.sl g id (ver+1) 0 (rows.length+a.length) none,up:=some (id,.arr false ty' g (ver+1) (els++a))}:=by
  simp only[Sim.appendTo,H];rw[jX2 ⟨by trivial,by trivial,by trivial,by omega⟩];simp only[p,kB2,kU2];rw[jX2 (by omega),jX2 ⟨by trivial,f,by trivial⟩]
 have x:∀i,i≠id->Sim.look (upd s.h id (.arr false ty' g (ver+1) (els++a))) i=Sim.look s.h i:=fun i hi=>by
  rw[Sim.look_upd];simp[hi]
 obtain⟨F,G⟩:=Fi (id:=id) (ver:=ver+1) (e:=g) (len:=(rows++new).length) (po2:=.lz ty' g dp (rows++new)) (s':={h:=upd s.h id (.arr false ty' g (ver+1) (els++a)),n:=s.n}) l hg u
  (jR2 _) (l.wf.upd _ _) (.upd _ _ _ _) (fun i _ hi=>x i hi) (.inr ⟨_,_,_,j⟩) ⟨f,L,rfl,rfl,hfx,els++a,by rw[Sim.look_upd];simp[H],hr.append o⟩ rfl
 refine⟨_,_,_,_,hk,q _ J ?_,F,?_,G⟩
 grind
 refine .put hd ?_ (m (fA C k _));have:RV (mv C k (.atp id (ver+1) g (rows++new).length)) (.own k) (.sl g id (ver+1) 0 (rows++new).length none):=.own (oN C k _);rw[lQ2,hlen]at this;simpa[hlen]using this;have N:=sF l hg j;subst N
 have B:Sim.appendTo (Sim.look s.h) lim s.n ty' es' A a=some {v:=.sl es' s.n 0 0 a.length none,new:=some (.arr false ty' es' 0 a)}:=by
  rcases hy with rfl|rfl<;>simp[Sim.appendTo,p]
 have x:∀i,i<s.n->Sim.look (.ob s.n (.arr false ty' es' 0 a)::s.h) i=Sim.look s.h i:=fun i hi=>by
  rw[dM,jU2 (by omega)]
 obtain⟨F,G⟩:=Fi (id:=s.n) (ver:=0) (e:=es') (len:=([]++new).length) (po2:=.lz ty' es' dp ([]++new)) (s':={h:=.ob s.n (.arr false ty' es' 0 a)::s.h,n:=s.n+1}) l hg u
  (by show s.n<=s.n+1;omega) ⟨by simp,l.wf⟩ (.new _ _ _) (fun i hi _=>x i hi) (.inl (jR2 _)) ⟨l.lim,by show s.n<s.n+1;omega,rfl,rfl,hfx,a,by rw[dM,jX2 rfl],by rw[List.nil_append];exact o⟩ rfl
 refine⟨_,_,_,_,hk,q _ B ?_,F,.put hd ?_ (m (fA C k _)),G⟩
 grind
 have:RV (mv C k (.atp s.n 0 es' ([]++new).length)) (.own k) (.sl es' s.n 0 0 ([]++new).length none):=.own (oN C k _);simpa[hlen]using this;cases c
 grind
theorem Xb (p:cA C n h lim s) {e:dS} {t:aA AV} {d ty es b:Nat} {zero:aA Value} {kill:aA Nat} {x1 x2:PV} {O X:AV} {K:dS->aN->aB R} {r:R} (he:cP C e t) (hd:d<t.length) (h1:RV C x1 O) (h2:RV C x2 X)
  (hk:fR1 e h d ty es kill x1 x2 K=some r):
  ∃C' e' h' out,K e' h'=some r/\doOp (Sim.look s.h) lim s.n (.append ty es b zero false) [O,X]=some out/\cA C' n h' lim (out.apply s)/\cP C' e' (t.set d out.v)/\Fr C h s C' h' (out.apply s):=by
 unfold fR1 at hk;cases x1 with
 |own k=>
  simp only[dX,jN2]at hk;obtain⟨ob,hg,hk⟩:=hk;cases ob with
  |lz ty' es' dp rows=>exact Sm p he hd h1 h2 hg hk
  |lst ty' es' g rows=>
   have hz:=Sl p hk h2;clear hk;obtain⟨new,a,hk,b9,y⟩:=hz;by_cases hc:(Nat.beq es' es&&(Nat.beq ty' ty&& !(fE ty')))=true;simp only[hc,kD2,bL,jN2]at hk;simp only[jO2,bG,jY2,kH2]at hc;obtain⟨rfl,rfl,hfx⟩:=hc;have A:xU ty'=ty':=by simp[xU,hfx]
   obtain⟨N,j,hk⟩:=hk;rw[dL]at hk;obtain⟨e2,hk,b6⟩:=iC _ _ _ hk;obtain⟨d5,hk,J⟩:=jE _ _ _ hk;have hk:=dH _ _ _ _ _ hk;unfold appRows at j;split at j;rename_i M;obtain rfl:rows++new=N:=mX2 j
   have u:∀{C':Cx},iZ k C C'->∀i w,dK e2 i=some w->∃z,t[i]? =some z/\RV C' w z/\i≠d:=by
    intro C' o i w hw;obtain⟨v,q1,q2⟩:=b6 i w hw;obtain⟨z,p1,p2,p3⟩:=he.edel (d::kill) i v q1;exact⟨z,p1,q2 o p2,fun Y=>p3 (by simp[Y])⟩
   have G:∀out,Sim.appendTo (Sim.look s.h) lim s.n ty' es' O a=some out->(∀z id ver off len cap,out.v=.sl z id ver off len cap->len<=Sim.maxRoom)->doOp (Sim.look s.h) lim s.n (.append ty' es' b zero false) [O,X]=some out:=by
    intro out T hl;simp only[doOp,Sim.appRows,kB2,kU2,b9,T];split;rename_i hv;rw[jX2 ⟨hl _ _ _ _ _ _ hv,by rw[<-y.1];omega⟩];rfl
   have hlen:=y.1;by_cases D:a=[]
   ·
    subst D;have S:new=[]:=by simpa using hlen
    subst S;rw[mR2]at hk;obtain⟨V,W⟩:=Kz p hg J (show eE (.lst ty' es' g rows)=false from hfx);refine⟨C,_,_,{v:=O},hk,G _ ?_ ?_,V,.put hd h1 (u iZ.self),W⟩;rcases gJ h1 with⟨id,ver,m,len,o,rfl⟩|⟨o,hy⟩
    obtain⟨l,rfl,hl,els,F,hr,b7,_⟩:=gZ p hg o;rw[A]at F;simp only[Sim.appendTo,F];rw[jX2 ⟨by trivial,by trivial,by trivial,by omega⟩];rfl;rcases hy with rfl|rfl<;>rfl;intro z id ver off len cap hv;rcases gJ h1 with⟨id',d3,m,d2,o,rfl⟩|⟨o,hy⟩
    obtain⟨l,rfl,hl,_⟩:=gZ p hg o;cases hv;omega
    grind
   have x:a.isEmpty=false:=by cases a<;>simp_all
   rcases gJ h1 with⟨id,ver,m,len,o,rfl⟩|⟨o,hy⟩
   obtain⟨l,rfl,hl,els,F,hr,b7,b0⟩:=gZ p hg o;rw[A]at F;subst hl;have b5:=(p.hr.lt (by rw[hg];simp) o).2
   have fin:∀(f:Nat) (c:aA (aA AV)) (out:Out),out={v:=.sl m id f 0 (rows.length+a.length) none,up:=some (id,.arr false ty' m f c)}->
     Sim.appendTo (Sim.look s.h) lim s.n ty' m (.sl m id ver 0 rows.length none) a=some out->
     RR (rows++new) (c.take (rows++new).length)->(rows++new).length<=c.length->(g=false->c.length=(rows++new).length)->
     ∃C' e' h' out,K e' h'=some r/\doOp (Sim.look s.h) lim s.n (.append ty' m b zero false) [.sl m id ver 0 rows.length none,X]=some out/\cA C' n h' lim (out.apply s)/\cP C' e' (t.set d out.v)/\Fr C h s C' h' (out.apply s):=by
    intro f c out T Z U P a0;have B:(out.apply s).h=upd s.h id (.arr false ty' m f c)/\(out.apply s).n=s.n:=by subst T;exact⟨rfl,rfl⟩
    have L:∀i,i≠id->Sim.look (upd s.h id (.arr false ty' m f c)) i=Sim.look s.h i:=fun i hi=>by
     rw[Sim.look_upd];simp[hi]
    have q:out.apply s={h:=upd s.h id (.arr false ty' m f c),n:=s.n}:=by subst T;rfl
    obtain⟨V,W⟩:=Fi (id:=id) (ver:=f) (e:=m) (len:=(rows++new).length) (po2:=.lst ty' m g (rows++new)) (s':={h:=upd s.h id (.arr false ty' m f c),n:=s.n}) p hg J
     (jR2 _) (p.wf.upd _ _) (.upd _ _ _ _) (fun i _ hi=>L i hi) (.inr ⟨_,_,_,o⟩) ⟨l,b5,rfl,rfl,c,by rw[Sim.look_upd];simp[F,A],U,P,a0⟩ hfx
    refine⟨_,_,_,out,hk,G out Z ?_,by rw[q];exact V,?_,by rw[q];exact W⟩
    grind
    subst T;refine .put hd ?_ (u (fA C k _));have:RV (mv C k (.atp id f m (rows++new).length)) (.own k) (.sl m id f 0 (rows++new).length none):=.own (oN C k _);rw[lQ2,hlen]at this;simpa[hlen]using this
   by_cases H:rows.length=els.length;refine fin (ver+1) (els++a) _ rfl ?_ ?_ ?_ ?_;simp only[Sim.appendTo,F];rw[jX2 ⟨by trivial,by trivial,by trivial,by omega⟩];simp only[x,kB2,kU2];rw[jX2 (by omega),jX2 ⟨by trivial,l,by trivial⟩];rw[kW2 (by simp;omega)];refine RR.append ?_ y;rw[kW2 (by omega)]at hr;exact hr;simp;omega;intro _;simp;omega
   have b4:g=true:=by
    cases g with
    |true=>rfl
    |false=>exact absurd (b0 rfl).symm H
   have d4:=M.2 b4
   have d1:a.length=1:=by
    have:a.length≠0:=by simpa using D
    omega
   have E:rows.length+a.length<=els.length:=by omega
   refine fin ver (Sim.setL els rows.length a) _ rfl ?_ ?_ ?_ ?_;simp only[Sim.appendTo,F];rw[jX2 ⟨by trivial,by trivial,by trivial,by omega⟩];simp only[x,kB2,kU2];rw[jU2 (by omega),jX2 ⟨by omega,l⟩];rw[lN2];rw[qR els rows.length a E];have Y:(els.take rows.length++a++els.drop (rows.length+a.length)).take (rows++new).length=els.take rows.length++a:=by grind
   rw[Y];exact hr.append y;rw[qR els rows.length a E];simp[hlen];omega
   grind
   ·
    have b8:=iX p hg o;subst b8
    have B:Sim.appendTo (Sim.look s.h) lim s.n ty' es' O a=some {v:=.sl es' s.n 0 0 a.length none,new:=some (.arr false ty' es' 0 a)}:=by
     rcases hy with rfl|rfl<;>simp[Sim.appendTo,x]
    have L:∀i,i<s.n->Sim.look (.ob s.n (.arr false ty' es' 0 a)::s.h) i=Sim.look s.h i:=fun i hi=>by
     rw[dM,jU2 (by omega)]
    obtain⟨V,W⟩:=Fi (id:=s.n) (ver:=0) (e:=es') (len:=([]++new).length) (po2:=.lst ty' es' g ([]++new)) (s':={h:=.ob s.n (.arr false ty' es' 0 a)::s.h,n:=s.n+1}) p hg J
     (by show s.n<=s.n+1;omega) ⟨by simp,p.wf⟩ (.new _ _ _) (fun i hi _=>L i hi) (.inl (jR2 _)) ⟨p.lim,by show s.n<s.n+1;omega,rfl,rfl,a,by rw[dM,jX2 rfl,A],by rw[kW2 (by simp;omega)];exact y,by simp;omega,fun _=>by simp;omega⟩ hfx
    refine⟨_,_,_,_,hk,G _ B ?_,V,.put hd ?_ (u (fA C k _)),W⟩
    grind
    have:RV (mv C k (.atp s.n 0 es' ([]++new).length)) (.own k) (.sl es' s.n 0 0 ([]++new).length none):=.own (oN C k _);simpa[hlen]using this
   cases j
   grind
  |_=>exact aD hk
 |_=>exact aD hk
theorem Sn (d:cA C n h lim s) {k ty2 e2:Nat} {g2:Bool} {po:fG} {h1:aN} (hg:aK h k=some po) (u:C k=some .nil) (hkl:wU k h h1) (g:fE ty2=false):
  cA C n (dW h1 k (.lst ty2 e2 g2 [])) lim s/\Fr C h s C (dW h1 k (.lst ty2 e2 g2 [])) s:=by
 have m:(aK h1 k).isSome=true:=by
  cases hc:aK h1 k with
  |none=>rw[(hkl.1 k).1 hc]at hg;cases hg
  |some o=>rfl
 have a:∀j,aK (dW h1 k (.lst ty2 e2 g2 [])) j=if j=k then some (.lst ty2 e2 g2 [])else aK h1 j:=fun j=>by
  rw[eS];simp[m]
 have b:∀j,aK (dW h1 k (.lst ty2 e2 g2 [])) j≠none->aK h j≠none:=fun j c=>by
  rw[a]at c;split at c
  grind
  exact fun hc=>c ((hkl.1 j).2 hc)
 refine⟨⟨⟨fun j o c=>?_,fun j t i v1 f r v2 e2 y a1 a2 a3 a4=>d.hr.inj j t i v1 f r v2 e2 y (b j a1) (b t a2) a3 a4,fun i o x=>?_⟩,d.dom,d.wf,d.lim⟩,⟨.refl _ _,jR2 _,fun _ _ _=>rfl,fun i hi w=>?_,Bh hg hkl g iZ.self,fun _ _ h=>h,fun _ _ h=>.inl h⟩⟩;rw[a]at c;split at c;rename_i f;subst f;cases c;exact⟨.nil,u,rfl⟩;obtain⟨z,q1,A,q2⟩:=hkl.2 j o c;obtain⟨pl,p,q⟩:=d.hr.ob j z q1;exact⟨pl,p,q2 iZ.self q⟩;obtain⟨z1,z2,z3,z4⟩:=d.hr.zr i o x;exact⟨z1,z2,fun j v e l h1 h2=>z3 j v e l (b j h1) h2,z4⟩;obtain⟨j,v1,f,r,p,q⟩:=w;exact⟨j,v1,f,r,b j p,q⟩
theorem No (f:cA C n h lim s) {e:dS} {t:aA AV} {d es k:Nat} {hi:Int} {kd:IntKind} {kill:aA Nat} {D F:AV} {K:dS->aN->aB R} {r:R} (he:cP C e t) (hd:d<t.length) (h1:RV C (.own k) D) (h2:RV C (.v (.int kd hi)) F)
  (hk:Ii e h d es kill k hi K=some r):
  ∃C' e' h' out,K e' h'=some r/\doOp (Sim.look s.h) lim s.n (.slc es false true false) [D,F]=some out/\cA C' n h' lim (out.apply s)/\cP C' e' (t.set d out.v)/\Fr C h s C' h' (out.apply s):=by
 unfold Ii at hk;simp only[dX,jN2]at hk;obtain⟨ob,hg,hk⟩:=hk;cases ob with
 |lst ty es' g rows=>
  by_cases hc:es'=es
  .subst hc
   cases hfx:fE ty with
   |true=>simp only[hfx,mS2,Bool.and_false,kQ2]at hk;exact aD hk
   |false=>
   simp only[bG,lL2,hfx,Bool.not_false,Bool.and_true,kD2,bL,jN2,nR]at hk;obtain⟨B,c,hk⟩:=hk;rw[dL]at hk;obtain⟨e2,hk,j⟩:=iC _ _ _ hk;obtain⟨u,hk,l⟩:=jE _ _ _ hk;have hk:=dH _ _ _ _ _ hk;split at c
   .rename_i hb
    obtain⟨b2,b3⟩:=hb;obtain rfl:=mX2 c;rw[dY h2];rcases gJ h1 with⟨id,ver,o,len,b,rfl⟩|⟨b,hy⟩
    .obtain ⟨m,rfl,hl,els,E,hr,H,G⟩:=gZ f hg b
     subst hl;have x:=(f.hr.lt (by rw[hg];simp) b).2;have a:(rows.take hi.toNat).length=hi.toNat:=by simp;omega
     obtain⟨y,A⟩:=Fi (id:=id) (ver:=ver) (e:=o) (len:=(rows.take hi.toNat).length) (po2:=.lst ty o true (rows.take hi.toNat)) (s':=s) (h1:=u) (hg:=hg) (hkl:=l) f
      (jR2 _) f.wf (.refl _ _) (fun i _ _=>rfl) (.inr ⟨_,_,_,b⟩) ⟨m,x,rfl,rfl,els,E,by
       have:=hr.take hi.toNat
       rw[List.take_take,Nat.min_eq_left (by omega)]at this;rw[a];exact this,by rw[a];omega,fun h=>by cases h⟩ hfx
     refine⟨_,_,_,{v:=.sl o id ver 0 hi.toNat none},hk,?_,y,.put hd ?_ (fun i w hw=>?_),A⟩
     .simp only[doOp,Sim.sliceOp,kB2,kU2,Sim.bounds,Sim.intOf,kL2,E,Sim.roomOf]
      rw[jX2 ⟨by trivial,by trivial,by omega,b2,by omega,by omega⟩];simp
     .have:=RV.own (C:=mv C k (.atp id ver o (rows.take hi.toNat).length)) (oN C k _)
      rw[a]at this ⊢;exact this
     .obtain ⟨v,q1,q2⟩:=j i w hw
      obtain⟨z,p1,p2,p3⟩:=he.edel (d::kill) i v q1;exact⟨z,p1,q2 (fA C k _) p2,fun p=>p3 (by simp[p])⟩
    .have:=iX f hg b
     subst this;simp only[kC2,Int.natCast_zero]at b3;obtain rfl:hi=0:=by omega
     obtain⟨y,A⟩:=Sn (ty2:=ty) (e2:=es') (g2:=true) f hg b l hfx
     obtain rfl:D=.v (.slice none 0 0):=by
      rcases kE h1 with⟨_,_,_,_,q,_⟩|⟨_,q⟩
      .rw [b]at q;cases q
      .exact q
     refine⟨_,_,_,{v:=.v (.slice none 0 0)},hk,rfl,y,.put hd (.ownn b rfl) (fun i w hw=>?_),A⟩;obtain⟨v,q1,q2⟩:=j i w hw;obtain⟨z,p1,p2,p3⟩:=he.edel (d::kill) i v q1;exact⟨z,p1,q2 iZ.self p2,fun p=>p3 (by simp[p])⟩
   .cases c
  .simp only[bG,lH2 hc,Bool.false_and,kQ2]at hk;exact aD hk
 |_=>exact aD hk
end
end Go.P
namespace Go.P
open Go.Sim (AV AO Hp eO upd St IC IX Ex dQ CK Wf Out doOp gA exec)
section
variable {R:Type} {C:Cx} {n:Nat} {h:aN} {lim:Nat} {s:Hp}
theorem So (l:cA C n h lim s) {m:Bool} {k:Nat} {v:PV} {ob:fG} {x:PV} (hv:wG v=some (m,k)) (hg:aK h k=some ob) (hf:Kl m ob=some x) {y:AV} (hy:RV C v y):
  (∃id ver e len o,C k=some (.atp id ver e len)/\Sim.look s.h id=some o/\nbO o=true/\∀(z:Nat->aB AO) (f:Nat->aB Pl),(∀i o,C.z i=some o->z i=some o)->z id=some o->RV ⟨f,z⟩ x y)\/(C k=some .nil/\∀C':Cx,RV C' x y):=by
 cases v with
 |own k'=>
  cases hv;cases ob with
  |lst ty e g rows=>
   unfold Kl at hf;cases hfx:fE ty with
   |true=>simp only[hfx,kD2]at hf;cases hf
   |false=>
   simp only[hfx,kQ2]at hf;cases hf;have q:xU ty=ty:=by simp[xU,hfx]
   rcases kE hy with⟨id,ver,d,len,c,rfl⟩|⟨c,rfl⟩
   obtain⟨_,rfl,hlen,els,j,hr,p,_⟩:=gZ l hg c;subst hlen;rw[q]at j;refine .inl ⟨id,ver,d,_,_,c,j,rfl,fun z f t hi=>.zs (.inr ⟨d,rows,id,ver,ty,els,rfl,rfl,hi,p,fun i r r' a b=>?_⟩)⟩;refine hr.2 i r r' a ?_;have:i<rows.length:=(jP2.1 a).1;rw[kY2,jX2 this];exact b;have:=iX l hg c;subst this;exact .inr ⟨c,fun C'=>.zs (RZ.of .isn)⟩
  |lz ty e dp rows=>
   cases hf;rcases kE hy with⟨id,ver,d,len,c,rfl⟩|⟨c,rfl⟩
   obtain⟨_,_,rfl,hlen,_,els,j,hr⟩:=tO l hg c;subst hlen;have hl:=hr.1;exact .inl ⟨id,ver,d,_,_,c,j,rfl,fun z f t hi=>.zs (.inr ⟨d,rows,id,ver,ty,els,rfl,rfl,hi,by omega,fun i r r' a b=>(hr.2 i r r' a b).mono fun _ _ h=>RZ.mono t h⟩)⟩;have:=sF l hg c;subst this;exact .inr ⟨c,fun C'=>.zs (RZ.of .isn)⟩
  |_=>cases hf
 |map k'=>
  cases hv;cases ob with
  |mp es=>
   cases hf;obtain⟨id,ver,d,len,c,rfl⟩:=sB hy;obtain⟨_,es',j,he⟩:=Fa l hg c;exact .inl ⟨id,ver,d,_,_,c,j,rfl,fun z f t hi=>.zm hi he⟩
  |_=>cases hf
 |_=>cases hv
def Pq (C:Cx) (k id:Nat) (o:AO):Cx:=⟨fun j=>if j=k then some .nil else C j,fun i=>if i=id then some o else C.z i⟩
theorem uA1 (q:cA C n h lim s) {k id ver e len:Nat} {po:fG} {h1:aN} {o:AO} (hg:aK h k=some po) (u:C k=some (.atp id ver e len)) (L:Sim.look s.h id=some o) (E:nbO o=true) (hkl:wU k h h1):
  cA (Pq C k id o) n (dW h1 k (.lst 0 0 true [])) lim s/\Fr C h s (Pq C k id o) (dW h1 k (.lst 0 0 true [])) s/\iZ k C (Pq C k id o):=by
 have B:=(q.hr.lt (by rw[hg];simp) u).2
 have F:C.z id=none:=by
  cases f:C.z id with
  |none=>rfl
  |some o'=>exact absurd u ((q.hr.zr id o' f).2.2.1 k ver e len (by rw[hg];simp))
 have x:∀i o',C.z i=some o'->(Pq C k id o).z i=some o':=fun i o' f=>by
  have:i≠id:=fun r=>by rw[r,F]at f;cases f
  simp only[Pq,jU2 this];exact f
 have c:iZ k C (Pq C k id o):=⟨fun j d=>jU2 d,x⟩
 have y:(Pq C k id o) k=some .nil:=jX2 rfl
 have A:(aK h1 k).isSome=true:=by
  cases hc:aK h1 k with
  |none=>rw[(hkl.1 k).1 hc]at hg;cases hg
  |some o=>rfl
 have m:∀j,aK (dW h1 k (.lst 0 0 true [])) j=if j=k then some (.lst 0 0 true [])else aK h1 j:=fun j=>by
  rw[eS];simp[A]
 have p:∀j,aK (dW h1 k (.lst 0 0 true [])) j≠none->aK h j≠none:=fun j d=>by
  rw[m]at d;split at d
  grind
  exact fun hc=>d ((hkl.1 j).2 hc)
 have g:∀{j t v e l},(Pq C k id o) j=some (.atp t v e l)->j≠k/\C j=some (.atp t v e l):=fun{j t v e l} d=>by
  by_cases b:j=k
  grind
  exact⟨b,(c.1 j b).symm.trans d⟩
 refine⟨⟨⟨fun j ob d=>?_,fun j K i v1 r J v2 e2 N a1 a2 a3 a4=>q.hr.inj j K i v1 r J v2 e2 N (p j a1) (p K a2) (g a3).2 (g a4).2,fun i o' f=>?_⟩,fun j pl d=>?_,q.wf,q.lim⟩,⟨.refl _ _,jR2 _,fun _ _ _=>rfl,fun i hi M=>?_,Bh hg hkl rfl c,x,fun i hi f=>?_⟩,c⟩;rw[m]at d;split at d;rename_i r;subst r;cases d;exact⟨.nil,y,rfl⟩;rename_i D;obtain⟨O,q1,P,q2⟩:=hkl.2 j ob d;obtain⟨pl,G,H⟩:=q.hr.ob j O q1;exact⟨pl,(c.1 j D).trans G,q2 c H⟩;by_cases hi:i=id;subst hi;simp only[Pq,kR2]at f;cases f;refine⟨L,B,fun j v e' l a b=>?_,E⟩;obtain⟨b1,b2⟩:=g b;exact b1 (q.hr.inj j k i _ _ _ _ _ _ (p j a) (by rw[hg];simp) b2 u);simp only[Pq,jU2 hi]at f;obtain⟨z1,z2,z3,z4⟩:=q.hr.zr i o' f;exact⟨z1,z2,fun j v e' l a b=>z3 j v e' l (p j a) (g b).2,z4⟩;by_cases b:j=k;subst b;exact q.dom j _ u;exact q.dom j pl ((c.1 j b).symm.trans d);obtain⟨j,v1,r,J,G,H⟩:=M;exact⟨j,v1,r,J,p j G,(g H).2⟩;by_cases w:i=id;subst w;exact .inr ⟨k,ver,e,len,by rw[hg];simp,u⟩;simp only[Pq,jU2 w]at f;exact .inl f
theorem Xc (A:cA C n h lim s) {e:dS} {t:aA AV} (he:cP C e t) {d k:Nat} {m:Bool} {H J:PV} {q yd:AV} {j:aB Nat} {K:dS->aN->aB R} {r:R} (N:dK e d=some J) (hd:t[d]? =some yd) (P:RV C J yd)
  (hv:wG H=some (m,k)) (hy:RV C H q) (O:(j=none/\yd=q)\/∃i cs',j=some i/\yd=.agg cs'/\cs'[i]? =some q) (hk:fzK e h d m k j K=some r):
  ∃C' e' h',K e' h'=some r/\cA C' n h' lim s/\cP C' e' t/\Fr C h s C' h' s:=by
 unfold fzK at hk;rw[dX,jN2]at hk;obtain⟨ob,hg,hk⟩:=hk;cases hf:Kl m ob with
 |none=>rw[hf]at hk;cases hk
 |some x=>
 rw[hf]at hk;simp only at hk;obtain⟨e2,hk,D⟩:=iC _ _ _ hk;obtain⟨h2,hk,p⟩:=jE _ _ _ hk;have hk:=dH _ _ _ _ _ hk
 have g:∃C',cA C' n (dW h2 k (.lst 0 0 true [])) lim s/\Fr C h s C' (dW h2 k (.lst 0 0 true [])) s/\iZ k C C'/\RV C' x q:=by
  rcases So A hv hg hf hy with⟨id,ver,S,len,o,y,M,E,F⟩|⟨y,F⟩
  obtain⟨c,f,u⟩:=uA1 A hg y M E p;exact⟨_,c,f,u,F _ _ u.2 (by simp[Pq])⟩;obtain⟨c,f⟩:=Sn (ty2:=0) (e2:=0) (g2:=true) A hg y p rfl;exact⟨C,c,f,iZ.self,F C⟩
 obtain⟨C',c,f,u,G⟩:=g
 have l:cP C' e2 t:=fun i w hw=>by
  obtain⟨v,q1,q2⟩:=D i w hw;obtain⟨z,p1,p2⟩:=he i v q1;exact⟨z,p1,q2 u p2⟩
 have yE:∀{v:PV},RV C' v yd->cP C' ((d,v)::edel e2 [d]) t:=fun{v} hv i w hw=>by
  simp only[dK]at hw;split at hw
  grind
  obtain⟨z,p1,p2,_⟩:=l.edel [d] i w hw;exact⟨z,p1,p2⟩
 rcases O with⟨rfl,rfl⟩|⟨i,cs',rfl,rfl,hi⟩
 simp only[dL]at hk;exact⟨C',_,_,hk,c,yE G,f⟩;simp only[eP,jN2]at hk;obtain⟨v2,hv2,hk⟩:=hk;cases v2 with
 |agg cs=>
  obtain⟨q1,q2⟩:=gR _ _ _ _ _ hk;simp only[dL]at q2;obtain⟨z,p1,p2⟩:=l d _ hv2;rw[hd]at p1;cases p1;obtain⟨cs2,B,hl⟩:=kP p2;cases B;refine⟨C',_,_,q2,c,yE ?_,f⟩;have b:=hl.set G i
  have L:cs'.set i q=cs':=by
   apply mY2;intro a;rw[kN2];split
   grind
   rfl
  rw[L]at b;exact .agg b.1 b.2
 |_=>exact aD hk
end
end Go.P
namespace Go.P
open Go.Sim (AV AO Hp eO upd St IC IX Ex dQ CK Wf Out doOp gA exec Foot wanted put)
theorem Sp {x:PV} (h:okC x=true):RC false x (eV x):=by
 unfold okC at h;split at h;exact .v _;exact .isn;exact .fn rfl rfl (fun j x y h=>by simp at h) (fun j x y h=>by simp at h);rename_i cs;refine .agg (by simp) (fun j x y a hy=>?_);simp only[kV2,jQ2]at hy;obtain⟨b,h1,rfl⟩:=hy;rw[a]at h1;cases h1;have:=jV2.1 h x (kA2 a);cases x<;>simp[isV]at this;exact .v _;cases h
def It (N:Nat):PX->Bool
 |.t i=>Nat.blt i N
 |.c x=>okC x
def iB (N:Nat) (e:aA Nat) (a:Bool):aA Nat->fU->Bool
 |_,.nil=>true
 |ds,.op d _ xs _ r=>Nat.blt d N&& !yC d e&&xs.all (It N)&&iB N e a (d::ds) r
 |ds,.sto _ xs _ r=>xs.all (It N)&&iB N e a ds r
 |ds,.ifx d c _ b x _ r=>Nat.blt d N&& !yC d e&&It N x&&(!a||yC c ds)&&iB N (c::e) true [] b&&iB N e a (d::ds) r
 |ds,.ifn d c _ b x _ r=>Nat.blt d N&& !yC d e&&It N x&&(!a||yC c ds)&&iB N (c::e) true [] b&&iB N e a (d::ds) r
 |ds,.mkfl d _ _ xs _ r=>Nat.blt d N&& !yC d e&&xs.all (It N)&&iB N e a (d::ds) r
 |ds,.lax _ _ r=>iB N e a ds r
 |ds,.own _ _ _ _ r=>iB N e a ds r
 |ds,.ownc _ _ _ _ _ r=>iB N e a ds r
 |ds,.laxc _ _ _ r=>iB N e a ds r
 |ds,.fz _ _ r=>iB N e a ds r
 |ds,.laxm _ _ r=>iB N e a ds r
section
variable {R:Type} {C:Cx} {n N:Nat} {h:aN} {lim:Nat} {s:Hp} {T:gA} {O:qN} {NF:FuncId->Bool} {dr:Nat} {e:dS} {t:List AV}
theorem iG (he:cP C e t):∀{xs:aA PX} {vs:aA PV},xs.all (It N)=true->evs e xs=some vs->∃ys,Sim.evs t (xs.map eX)=some ys/\LR (RV C) vs ys
 |[],vs,_,h=>by
  simp only[evs,jT2]at h
  subst h
  exact⟨[],rfl,.nil⟩
 |.t i::xs,vs,ho,h=>by
  simp only[evs,jN2,jT2]at h
  obtain⟨v,hv,f,a,rfl⟩:=h
  obtain⟨y,h1,h2⟩:=he i v hv
  obtain⟨ys,b,d⟩:=iG he (xs:=xs) (by simp only[lO2,jO2]at ho;exact ho.2) a
  exact⟨y::ys,by simp[Sim.evs,eX,IX.ev,h1,b],.cons h2 d⟩
 |.c x::xs,vs,ho,h=>by
  simp only[evs,jN2,jT2]at h
  obtain⟨f,a,rfl⟩:=h
  simp only[lO2,jO2]at ho
  obtain⟨ys,b,d⟩:=iG he (xs:=xs) ho.2 a
  exact⟨eV x::ys,by simp[Sim.evs,eX,IX.ev,b],.cons (.cl (Sp ho.1)) d⟩
def Gv (g:aB (Nat×Bool)) (t:aA AV):Prop:=match g with
 |none=>True
 |some (c,w)=>t[c]? =some (.v (.bool w))
theorem Gv.wanted {g:aB (Nat×Bool)} {t:aA AV} (h:Gv g t):wanted t g=true:=by
 cases g with
 |none=>rfl
 |some p=>obtain⟨c,w⟩:=p;simp only[Gv]at h;simp[Sim.wanted,h]
def GIn (g:aB (Nat×Bool)) (a:aA Nat):Prop:=∀c w,g=some (c,w)->c∈a
theorem Gv.set {g:aB (Nat×Bool)} {t:aA AV} {a:aA Nat} {d:Nat} {y:AV} (h:Gv g t) (hg:GIn g a) (hd:d∉a):Gv g (t.set d y):=by
 cases g with
 |none=>trivial
 |some p=>
  obtain⟨c,w⟩:=p;simp only[Gv]at h ⊢;rw[kK2 (fun e=>hd (by rw[e];exact hg c w rfl))];exact h
structure Mx (s s':Hp):Prop where
 sk:Sk s.h s'.h s.n
 n:s.n<=s'.n
 wf:Wf s'.h s'.n
 look:∀id,id<s.n->Sim.look s'.h id=Sim.look s.h id
theorem Mx.refl (hw:Wf s.h s.n):Mx s s:=⟨.refl _ _,jR2 _,hw,fun _ _=>rfl⟩
theorem Mx.trans {s' d:Hp} (a:Mx s s') (b:Mx s' d):Mx s d:=⟨a.sk.trans b.sk a.n,kP2 a.n b.n,b.wf,fun id c=>(b.look id (lS2 c a.n)).trans (a.look id c)⟩
theorem cA.grow {s':Hp} (b:cA C n h lim s) (a:Mx s s'):cA C n h lim s':=by
 refine⟨⟨fun k po hk=>?_,b.hr.inj,fun id o c=>?_⟩,b.dom,a.wf,kP2 b.lim a.n⟩;obtain⟨pl,h1,h2⟩:=b.hr.ob k po hk;refine⟨pl,h1,h2.mono a.n (.refl C) (fun id v e l hp=>?_)⟩;subst hp;exact a.look id h2.lt.2;obtain⟨z1,z2,z3,z4⟩:=b.hr.zr id o c;exact⟨(a.look id z2).trans z1,lS2 z2 a.n,z3,z4⟩
theorem Mx.fr {s':Hp} (b:Mx s s'):Fr C h s C h s':=⟨b.sk,b.n,fun id a _=>b.look id a,fun _ _ h=>h,fun k o h=>⟨o,h,fun hb=>⟨hb,rfl⟩⟩,fun _ _ h=>h,fun _ _ h=>.inl h⟩
theorem cD:∀(ops:fU) (a:aA Nat) (i:Nat),i∈bT ops a↔i∈bT ops []\/i∈a
 |.nil,a,i=>by simp[bT]
 |.op d k xs kl r,a,i=>by
  simp only[bT,kM2,cD r a i,or_assoc]
 |.sto k xs kl r,a,i=>by simp only[bT,cD r a i]
 |.ifx d c w b x kl r,a,i=>by
  simp only[bT,kM2,cD b (bT r a) i,cD b (bT r []) i,cD r a i]
  constructor
  rintro(h|h|h|h)<;>simp[h]
  rintro((h|h|h)|h)<;>simp[h]
 |.ifn d c w b x kl r,a,i=>by
  simp only[bT,kM2,cD b (bT r a) i,cD b (bT r []) i,cD r a i]
  constructor
  rintro(h|h|h|h)<;>simp[h]
  rintro((h|h|h)|h)<;>simp[h]
 |.mkfl d ty zero xs kl r,a,i=>by
  simp only[bT,kM2,cD r a i,or_assoc]
 |.lax d es r,a,i=>by simp only[bT,cD r a i]
 |.own d ty e g r,a,i=>by simp only[bT,cD r a i]
 |.ownc d j ty e g r,a,i=>by simp only[bT,cD r a i]
 |.laxc d j e r,a,i=>by simp only[bT,cD r a i]
 |.fz d j r,a,i=>by simp only[bT,cD r a i]
 |.laxm d j r,a,i=>by simp only[bT,cD r a i]
theorem dR:∀(ops:fU) {f h:aA Nat} {a:Bool},iB N f a h ops=true->∀i∈bT ops [],i∉f
 |.nil,f,h,a,_,i,hi=>by simp[bT]at hi
 |.op d k xs kl r,f,h,a,ho,i,hi=>by
  simp only[iB,jO2,kH2,fP]at ho
  obtain⟨⟨⟨h1,h2⟩,m⟩,l⟩:=ho
  simp only[bT,kM2]at hi
  rcases hi with rfl|hi
  simpa using h2
  exact dR r l i hi
 |.sto k xs kl r,f,h,a,ho,i,hi=>by
  simp only[iB,jO2]at ho
  exact dR r ho.2 i hi
 |.ifx d c w b x kl r,f,h,a,ho,i,hi=>by
  simp only[iB,jO2,kH2,fP]at ho
  obtain⟨⟨⟨⟨⟨h1,h2⟩,m⟩,l⟩,n⟩,o⟩:=ho
  simp only[bT,kM2,cD b (bT r []) i]at hi
  rcases hi with rfl|hi|hi
  simpa using h2
  exact fun hg=>dR b n i hi (by simp[hg])
  exact dR r o i hi
 |.ifn d c w b x kl r,f,h,a,ho,i,hi=>by
  simp only[iB,jO2,kH2,fP]at ho
  obtain⟨⟨⟨⟨⟨h1,h2⟩,m⟩,l⟩,n⟩,o⟩:=ho
  simp only[bT,kM2,cD b (bT r []) i]at hi
  rcases hi with rfl|hi|hi
  simpa using h2
  exact fun hg=>dR b n i hi (by simp[hg])
  exact dR r o i hi
 |.mkfl d ty zero xs kl r,f,h,a,ho,i,hi=>by
  simp only[iB,jO2,kH2,fP]at ho
  obtain⟨⟨⟨h1,h2⟩,m⟩,l⟩:=ho
  simp only[bT,kM2]at hi
  rcases hi with rfl|hi
  simpa using h2
  exact dR r l i hi
 |.lax d es r,f,h,a,ho,i,hi=>dR r (by simpa only[iB]using ho) i hi
 |.own d ty e g r,f,h,a,ho,i,hi=>dR r (by simpa only[iB]using ho) i hi
 |.ownc d j ty e g r,f,h,a,ho,i,hi=>dR r (by simpa only[iB]using ho) i hi
 |.laxc d j e r,f,h,a,ho,i,hi=>dR r (by simpa only[iB]using ho) i hi
 |.fz d j r,f,h,a,ho,i,hi=>dR r (by simpa only[iB]using ho) i hi
 |.laxm d j r,f,h,a,ho,i,hi=>dR r (by simpa only[iB]using ho) i hi
theorem lZ {g:aB (Nat×Bool)} {a:aA Nat} {d:Nat} {y:AV} (hg:GIn g a) (hd:d∉a):wanted (t.set d y) g=wanted t g:=by
 cases g with
 |none=>rfl
 |some p=>
  obtain⟨c,w⟩:=p;simp only[Sim.wanted];rw[kK2 (fun e=>hd (by rw[e];exact hg c w rfl))]
theorem tR {g:aB (Nat×Bool)} {t a:aA AV} (h:∀c w,g=some (c,w)->a[c]? =t[c]?):wanted a g=wanted t g:=by
 cases g with
 |none=>rfl
 |some p=>
  obtain⟨c,w⟩:=p;simp only[Sim.wanted];rw[h c w rfl]
theorem dZ (g:aB (Nat×Bool)):∀(ops:fU) (a h:aA Nat) (t:aA AV),iB N a true h ops=true->GIn g a->wanted t g=false->
  (∀c∈h,∀b,t[c]? ≠some (.v (.bool b)))->
  ∃fs n,Tr T NF dr lim (nU g ops) {t:=t,s:=s} fs {t:=n,s:=s}/\n.length=t.length/\(∀(i:Nat),i∉bT ops []->n[i]? =t[i]?)/\∀(i:Nat),n[i]? =t[i]? \/n[i]? =some AV.undef
 |.nil,a,h,t,_,_,_,_=>⟨[],t,.nil,rfl,fun _ _=>rfl,fun _=>.inl rfl⟩
 |.op d k xs kl r,a,h,t,ho,hg,hw,hd=>by
  simp only[iB,jO2,kH2,fP]at ho
  obtain⟨⟨⟨h1,h2⟩,K⟩,C⟩:=ho
  have m:d∉a:=by simpa using h2
  have dW:∀i,(t.set d AV.undef)[i]? =t[i]? \/(t.set d AV.undef)[i]? =some AV.undef:=fun i=>by
   by_cases e:d=i
   subst e
   by_cases hl:d<t.length
   exact .inr (by rw[kN2];simp[hl])
   exact .inl (by rw[mM2 (Nat.le_of_not_lt hl)])
   exact .inl (kK2 e)
  obtain⟨fs,n,A,B,y,l⟩:=dZ g r a (d::h) (t.set d AV.undef) C hg (by rw[lZ hg m];exact hw) (fun c hc b=>by
   by_cases f:d=c
   subst f
   rw[kN2]
   simp only[kR2]
   split
   intro e;cases e
   intro e;cases e
   rw[kK2 f]
   rcases kM2.1 hc with rfl|hc
   exact absurd rfl f
   exact hd c hc b)
  refine⟨_,n,.skip (o:=⟨some d,k,xs.map eX,g⟩) hw A,by simpa using B,fun i hi=>?_,fun i=>?_⟩
  simp only[bT,kM2,mJ2]at hi
  rw[y i hi.2,kK2 (Ne.symm hi.1)]
  rcases l i with l|l
  rw[l];exact dW i
  exact .inr l
 |.ifx d c w b x kl r,a,h,t,ho,hg,hw,hd=>by
  simp only[iB,jO2,kH2,fP,mS2,Bool.false_or]at ho
  obtain⟨⟨⟨⟨⟨h1,h2⟩,K⟩,C⟩,H⟩,L⟩:=ho
  have m:d∉a:=by simpa using h2
  have E:c∈h:=by simpa using C
  have G:wanted t (some (c,w))=false:=by
   simp only[Sim.wanted];split;rename_i q M;exact absurd M (hd c E q);rfl
  obtain⟨fs,p,A,B,y,l⟩:=dZ (some (c,w)) b (c::a) [] t H (fun z w' e=>by cases e;simp) G (fun c hc=>by simp at hc)
  have u:wanted p g=false:=by
   rw[tR (t:=t) (fun z w' e=>y z (fun hi=>dR b H z hi (by simp[hg z w' e])))];exact hw
  have F:∀c∈h,∀b,p[c]? ≠some (.v (.bool b)):=fun c hc b=>by
   rcases l c with l|l;rw[l];exact hd c hc b;rw[l];intro e;cases e
  have dW:∀i,(p.set d AV.undef)[i]? =p[i]? \/(p.set d AV.undef)[i]? =some AV.undef:=fun i=>by
   by_cases e:d=i;subst e;by_cases hl:d<p.length;exact .inr (by rw[kN2];simp[hl]);exact .inl (by rw[mM2 (Nat.le_of_not_lt hl)]);exact .inl (kK2 e)
  obtain⟨J,n,q1,q2,q3,q4⟩:=dZ g r a (d::h) (p.set d AV.undef) L hg (by rw[lZ hg m];exact u) (fun c hc b=>by
   by_cases f:d=c;subst f;rw[kN2];simp only[kR2];split;intro e;cases e;intro e;cases e;rw[kK2 f];rcases kM2.1 hc with rfl|hc;exact absurd rfl f;exact F c hc b)
  refine⟨_,n,A.append (.skip u q1),by simp[q2,B],fun i hi=>?_,fun i=>?_⟩;simp only[bT,kM2,cD b (bT r []) i,mJ2]at hi;rw[q3 i hi.2.2,kK2 (Ne.symm hi.1),y i hi.2.1];rcases q4 i with q4|q4;rw[q4];rcases dW i with D|D;rw[D];exact l i;exact .inr D;exact .inr q4
 |.ifn d c w b x kl r,a,h,t,ho,hg,hw,hd=>by
  simp only[iB,jO2,kH2,fP,mS2,Bool.false_or]at ho;obtain⟨⟨⟨⟨⟨h1,h2⟩,K⟩,C⟩,H⟩,L⟩:=ho;have m:d∉a:=by simpa using h2
  have E:c∈h:=by simpa using C
  have G:wanted t (some (c,w))=false:=by
   simp only[Sim.wanted];split;rename_i q M;exact absurd M (hd c E q);rfl
  obtain⟨fs,p,A,B,y,l⟩:=dZ (some (c,w)) b (c::a) [] t H (fun z w' e=>by cases e;simp) G (fun c hc=>by simp at hc)
  have u:wanted p g=false:=by
   rw[tR (t:=t) (fun z w' e=>y z (fun hi=>dR b H z hi (by simp[hg z w' e])))];exact hw
  have F:∀c∈h,∀b,p[c]? ≠some (.v (.bool b)):=fun c hc b=>by
   rcases l c with l|l;rw[l];exact hd c hc b;rw[l];intro e;cases e
  have dW:∀i,(p.set d AV.undef)[i]? =p[i]? \/(p.set d AV.undef)[i]? =some AV.undef:=fun i=>by
   by_cases e:d=i;subst e;by_cases hl:d<p.length;exact .inr (by rw[kN2];simp[hl]);exact .inl (by rw[mM2 (Nat.le_of_not_lt hl)]);exact .inl (kK2 e)
  obtain⟨J,n,q1,q2,q3,q4⟩:=dZ g r a (d::h) (p.set d AV.undef) L hg (by rw[lZ hg m];exact u) (fun c hc b=>by
   by_cases f:d=c;subst f;rw[kN2];simp only[kR2];split;intro e;cases e;intro e;cases e;rw[kK2 f];rcases kM2.1 hc with rfl|hc;exact absurd rfl f;exact F c hc b)
  refine⟨_,n,A.append (.skip u q1),by simp[q2,B],fun i hi=>?_,fun i=>?_⟩;simp only[bT,kM2,cD b (bT r []) i,mJ2]at hi;rw[q3 i hi.2.2,kK2 (Ne.symm hi.1),y i hi.2.1];rcases q4 i with q4|q4;rw[q4];rcases dW i with D|D;rw[D];exact l i;exact .inr D;exact .inr q4
 |.mkfl d ty zero xs kl r,a,h,t,ho,hg,hw,hd=>by
  simp only[iB,jO2,kH2,fP]at ho;obtain⟨⟨⟨h1,h2⟩,K⟩,C⟩:=ho;have m:d∉a:=by simpa using h2
  have dW:∀i,(t.set d AV.undef)[i]? =t[i]? \/(t.set d AV.undef)[i]? =some AV.undef:=fun i=>by
   by_cases e:d=i;subst e;by_cases hl:d<t.length;exact .inr (by rw[kN2];simp[hl]);exact .inl (by rw[mM2 (Nat.le_of_not_lt hl)]);exact .inl (kK2 e)
  obtain⟨fs,n,A,B,y,l⟩:=dZ g r a (d::h) (t.set d AV.undef) C hg (by rw[lZ hg m];exact hw) (fun c hc b=>by
   by_cases f:d=c;subst f;rw[kN2];simp only[kR2];split;intro e;cases e;intro e;cases e;rw[kK2 f];rcases kM2.1 hc with rfl|hc;exact absurd rfl f;exact hd c hc b)
  refine⟨_,n,.skip (o:=⟨some d,.buildSl ty 1 xs.length zero (List.range xs.length),xs.map eX,g⟩) hw A,by simpa using B,fun i hi=>?_,fun i=>?_⟩;simp only[bT,kM2,mJ2]at hi;rw[y i hi.2,kK2 (Ne.symm hi.1)];rcases l i with l|l;rw[l];exact dW i;exact .inr l
 |.sto k xs kl r,a,h,t,ho,hg,hw,hd=>by
  simp only[iB,jO2]at ho;obtain⟨fs,n,A,B,y,l⟩:=dZ g r a h t ho.2 hg hw hd;exact⟨_,n,.skip (o:=⟨none,k,xs.map eX,g⟩) hw A,B,y,l⟩
 |.lax d es r,a,h,t,ho,hg,hw,hd=>dZ g r a h t (by simpa only[iB]using ho) hg hw hd
 |.own d ty e g' r,a,h,t,ho,hg,hw,hd=>dZ g r a h t (by simpa only[iB]using ho) hg hw hd
 |.ownc d j ty e g' r,a,h,t,ho,hg,hw,hd=>dZ g r a h t (by simpa only[iB]using ho) hg hw hd
 |.laxc d j e r,a,h,t,ho,hg,hw,hd=>dZ g r a h t (by simpa only[iB]using ho) hg hw hd
 |.fz d j r,a,h,t,ho,hg,hw,hd=>dZ g r a h t (by simpa only[iB]using ho) hg hw hd
 |.laxm d j r,a,h,t,ho,hg,hw,hd=>dZ g r a h t (by simpa only[iB]using ho) hg hw hd
end
end Go.P
namespace Go.P
open Go.Sim (AV AO Hp eO upd St IC IX Ex dQ CK Wf Out doOp gA exec Foot wanted put)
section
variable {R:Type} {T:gA} {O:qN} {X:NX} {dr:Nat}
theorem La (G:∀f xs v,O f xs=some v->lC T f xs v) {C:Cx} {n:Nat} {h:aN} {lim:Nat} {s:Hp} {k:dQ} {as:aA PV} {ys:aA AV} {K:PV->aN->Nat->aB R} {r:R}
  (j:cA C n h lim s) (x:LR (RV C) as ys) (hk:opK O X k as h n K=some r):
  ∃v h' n' C' y s',K v h' n'=some r/\RV C' v y/\cA C' n' h' lim s'/\C.le C'/\n<=n'/\Fr C h s C' h' s'/\(Ew k=false->∀id,id<s.n->Sim.look s'.h id=Sim.look s.h id)/\
   ∀(o:Sim.Op1) (os:aA Sim.Op1) (t:aA AV) (fs:aA Foot) (τ:St),o.k=k->wanted t o.guard=true->Sim.evs t o.xs=some ys->Tr T X.is dr lim os {t:=put t o.dst y,s:=s'} fs τ->∃f,Tr T X.is dr lim (o::os) {t:=t,s:=s} (f::fs) τ:=by
 have call:∀(f:FuncId) (xs:aA PV) (zs:aA AV) (k:dQ),tK O f xs h (fun v=>K v h n)=some r->LR (RV C) xs zs->gK k=true->3<=jU X.is dr k->((∃ifn,T f=some ifn/\ifn.pure=true)->Sim.foot T k ys={all:=1})->
   (∀(d:Nat) (s:Hp),Sim.step T (exec T d) lim k ys s=Sim.callF T (exec T d) lim f zs s)->
   ∃v h' n' C' y s',K v h' n'=some r/\RV C' v y/\cA C' n' h' lim s'/\C.le C'/\n<=n'/\Fr C h s C' h' s'/\(Ew k=false->∀id,id<s.n->Sim.look s'.h id=Sim.look s.h id)/\
   ∀(o:Sim.Op1) (os:aA Sim.Op1) (t:aA AV) (fs:aA Foot) (τ:St),o.k=k->wanted t o.guard=true->Sim.evs t o.xs=some ys->Tr T X.is dr lim os {t:=put t o.dst y,s:=s'} fs τ->∃f,Tr T X.is dr lim (o::os) {t:=t,s:=s} (f::fs) τ:=by
  intro f xs zs k hk J hc l hf u;obtain⟨v,y,h1,h2,g,D,i⟩:=Ff (lim:=lim) G j hk J;refine⟨v,h,n,C,y,s,h1,.cl h2,j,.refl C,jR2 _,.refl _ _ _,fun _ _ _=>rfl,fun o os t fs τ q hw he w=>⟨{all:=1},?_⟩⟩;subst q;exact .call hw he hc l (hf g) ⟨D,fun d hd m=>by rw[u];exact i d hd m⟩ w
 unfold opK at hk;split at hk;rename_i e f;cases hX:X.is f with
 |true=>rw[hX]at hk;exact aD hk
 |false=>
  rw[hX,kQ2]at hk;refine call _ _ ys (.callF _) hk x rfl (by simp[jU,hX]) (fun⟨ifn,h1,h2⟩=>?_) (fun d s=>rfl);simp[Sim.foot,h1,h2]
 rename_i f first cap e
 obtain⟨y,z,rfl,h1,h2⟩:=x.inv_cons;obtain⟨a',b',rfl,g,i⟩:=tN h1;cases hX:X.is f with
 |true=>rw[hX]at hk;exact aD hk
 |false=>
  rw[hX,kQ2]at hk;refine call f (first++e++cap) (a'++z++b') .callV hk ((g.append h2).append i) rfl (by simp only[jU];split<;>omega) (fun⟨ifn,L,M⟩=>?_) (fun d s=>rfl);simp[Sim.foot,L,M]
 rename_i k' e p H;obtain⟨v,h',n',C',out,h1,h2,g,i,A,B,E,F⟩:=Fd j x hk;refine⟨v,h',n',C',out.v,out.apply s,h1,g,i,A,B,E,F,fun o os t fs τ q hw he w=>?_⟩;subst q;refine⟨_,.op hw he ?_ h2 w⟩;cases hk':o.k with
 |callF f=>exact absurd hk' (p f)
 |callV=>
  rw[hk']at hk;unfold cM at hk;rcases e with _|⟨a,_|⟨b,_|⟨c,_|⟨d,t⟩⟩⟩⟩<;>exact aD hk
 |_=>rfl
theorem wW {t:aA AV} {c i:Nat} {x:PX} {N:Nat} (b:t.length=N) (a:It N x=true):∃z,(eX x).ev t=some z:=by
 cases x with
 |t i=>
  simp only[It,lW2]at a;exact⟨t[i]'(by omega),by simp[eX,IX.ev]⟩
 |c x=>exact⟨eV x,rfl⟩
theorem Fj {t:aA AV} {x y z:IX} {a b c:AV} (h1:x.ev t=some a) (h2:y.ev t=some b) (d:z.ev t=some c):Sim.evs t [x,y,z]=some [a,b,c]:=by
 simp[Sim.evs,h1,h2,d]
theorem zV {N lim:Nat} {A:aA Nat} {C:Cx} {n:Nat} {h:aN} {e:dS} {t:aA AV} {s:Hp} {c:Nat} {w m y:Bool} {d:fU} {x:PX} (E:cA C n h lim s) (F:t.length=N) (B:iB N (c::A) true [] d=true) (D:It N x=true)
  (hc:t[c]? =some (.v (.bool m)))
  (hy:(bif w then Gu m (cO.opsB O X d e h n x) (some false)else Gu m (some true) (cO.opsB O X d e h n x))=some y)
  (IH:cO.opsB O X d e h n x=some y->Gv (some (c,w)) t->∃fs o s',Tr T X.is dr lim (nU (some (c,w)) d) {t:=t,s:=s} fs {t:=o,s:=s'}/\(eX x).ev o=some (.v (.bool y))/\o.length=N/\(∀(i:Nat),i∉bT d []->o[i]? =t[i]?)/\Mx s s'):
  ∃fs a b,Tr T X.is dr lim (nU (some (c,w)) d) {t:=t,s:=s} fs {t:=a,s:=b}/\a.length=N/\(∀(i:Nat),i∉bT d []->a[i]? =t[i]?)/\Mx s b/\
     ∃zs,Sim.evs a (if w then[.t c,eX x,.c (.v (.bool false))]else[.t c,.c (.v (.bool true)),eX x])=some zs/\doOp (Sim.look b.h) lim b.n .pick zs=some {v:=.v (.bool y)}:=by
 have k:∀a:aA AV,(∀(i:Nat),i∉bT d []->a[i]? =t[i]?)->a[c]? =some (.v (.bool m)):=fun a q=>by
  rw[q c (fun hi=>dR d B c hi (by simp))];exact hc
 have skip:m≠w->∃fs a b,Tr T X.is dr lim (nU (some (c,w)) d) {t:=t,s:=s} fs {t:=a,s:=b}/\a.length=N/\(∀(i:Nat),i∉bT d []->a[i]? =t[i]?)/\Mx s b:=by
  intro p;obtain⟨fs,a,l,f,g,j⟩:=dZ (T:=T) (NF:=X.is) (dr:=dr) (lim:=lim) (s:=s) (some (c,w)) d (c::A) [] t B (fun G w' e=>by cases e;simp) (by simp[Sim.wanted,hc,p]) (fun c hc=>by simp at hc);exact⟨fs,a,s,l,f.trans F,g,.refl E.wf⟩
 cases w with
 |true=>
  rw[kD2,lT]at hy;cases m with
  |true=>
   rw[jX2 rfl]at hy;obtain⟨fs,a,b,l,f,g,j,u⟩:=IH hy hc;exact⟨fs,a,b,l,g,j,u,[.v (.bool true),.v (.bool y),.v (.bool false)],Fj (k a j) f rfl,rfl⟩
  |false=>
   simp only[kB2,kU2,jT2]at hy;subst hy;obtain⟨fs,a,b,l,f,g,j⟩:=skip (by simp);obtain⟨z,r⟩:=wW (c:=0) (i:=0) f D;exact⟨fs,a,b,l,f,g,j,[.v (.bool false),z,.v (.bool false)],Fj (k a g) r rfl,rfl⟩
 |false=>
  rw[kQ2,lT]at hy;cases m with
  |true=>
   simp only[kR2,jT2]at hy;subst hy;obtain⟨fs,a,b,l,f,g,j⟩:=skip (by simp);obtain⟨z,r⟩:=wW (c:=0) (i:=0) f D;exact⟨fs,a,b,l,f,g,j,[.v (.bool true),.v (.bool true),z],Fj (k a g) rfl r,rfl⟩
  |false=>
   simp only[kB2,kU2]at hy;obtain⟨fs,a,b,l,f,g,j,u⟩:=IH hy hc;exact⟨fs,a,b,l,g,j,u,[.v (.bool false),.v (.bool true),.v (.bool y)],Fj (k a j) rfl f,rfl⟩
theorem qV (F:∀f xs v,O f xs=some v->lC T f xs v) {N lim:Nat}:∀(ops:fU) (a l:aA Nat) (g:aB (Nat×Bool)) (C:Cx) (n:Nat) (h:aN) (e:dS) (t:aA AV) (s:Hp) (x:PX) (b:Bool),
  cO.opsB O X ops e h n x=some b->cP C e t->cA C n h lim s->t.length=N->iB N a true l ops=true->It N x=true->Gv g t->GIn g a->
  ∃fs m s',Tr T X.is dr lim (nU g ops) {t:=t,s:=s} fs {t:=m,s:=s'}/\(eX x).ev m=some (.v (.bool b))/\m.length=N/\(∀(i:Nat),i∉bT ops []->m[i]? =t[i]?)/\Mx s s'
 |.nil,a,l,g,C,n,h,e,t,s,x,b,hk,he,hM,hN,ho,hx,hg,hgi=>by
  unfold cO.opsB at hk
  rw[gF,jN2]at hk
  obtain⟨vs,A,hk⟩:=hk
  obtain⟨ys,h1,h2⟩:=iG he (xs:=[x]) (by simpa using hx) A
  split at hk
  cases hk
  obtain⟨y,_,rfl,h3,h4⟩:=h2.inv_cons
  rw[h4.inv_nil]at h1
  rw[dY h3]at h1
  refine⟨[],t,s,.nil,?_,hN,fun _ _=>rfl,.refl hM.wf⟩
  simp only[lZ2,nB2,Sim.evs]at h1
  split at h1
  grind
  cases h1
  exact aD hk
 |.op d k xs kl r,a,l,g,C,n,h,e,t,s,x,b,hk,he,hM,hN,ho,hx,hg,hgi=>by
  simp only[iB,jO2,kH2,fP,lW2]at ho
  obtain⟨⟨⟨o1,S⟩,G⟩,o4⟩:=ho
  have q:d∉a:=by simpa using S
  unfold cO.opsB at hk
  rw[gF,jN2]at hk
  obtain⟨vs,A,hk⟩:=hk
  obtain⟨ys,h1,h2⟩:=iG he G A
  cases hst:Ew k with
  |true=>rw[hst]at hk;exact aD hk
  |false=>
   rw[hst,kQ2]at hk
   obtain⟨v,h',n',C',y,s',q1,q2,q3,q4,q5,q6,q7,q8⟩:=La F hM h2 hk
   rw[dL]at q1
   have hd:d<t.length:=by omega
   have u:cP C' ((d,v)::edel e (d::kl)) (t.set d y):=.put hd q2 (fun i w hw=>by
    obtain⟨z,p1,p2,p3⟩:=(he.mono q4).edel (d::kl) i w hw
    exact⟨z,p1,p2,fun J=>p3 (by simp[J])⟩)
   obtain⟨fs,m,s2,V,W,Y,Z,r5⟩:=qV F r a (d::l) g C' n' h' _ (t.set d y) s' x b q1 u q3 (by simpa using hN) o4 hx (hg.set hgi q) hgi
   obtain⟨f,hf⟩:=q8 ⟨some d,k,xs.map eX,g⟩ _ t fs _ rfl hg.wanted h1 V
   have P:Mx s s':=⟨q6.sk,q6.n,q3.wf,q7 hst⟩
   refine⟨_,m,s2,hf,W,Y,fun i hi=>?_,P.trans r5⟩
   simp only[bT,kM2,mJ2]at hi
   rw[Z i hi.2,kK2 (Ne.symm hi.1)]
 |.ifx d c w bd x' kl r,a,l,g,C,n,h,e,t,s,x,b,hk,he,hM,hN,ho,hx,hg,hgi=>by
  simp only[iB,jO2,kH2,fP,lW2,mS2,Bool.false_or]at ho
  obtain⟨⟨⟨⟨⟨o1,S⟩,G⟩,o4⟩,U⟩,o6⟩:=ho
  have q:d∉a:=by simpa using S
  unfold cO.opsB at hk
  rw[eP,jN2]at hk
  obtain⟨cv,L,hk⟩:=hk
  split at hk
  rename_i cb
  rw[bL,jN2]at hk
  obtain⟨y,hy,hk⟩:=hk
  rw[dL]at hk
  obtain⟨cy,B,K⟩:=he c _ L
  rw[dY K]at B
  obtain⟨fs,H,s1,p1,p2,p3,p4,zs,p5,p6⟩:=zV (T:=T) (O:=O) (X:=X) (dr:=dr) hM hN U G B hy (fun hb M=>qV F bd (c::a) [] (some (c,w)) C n h e t s x' y hb he hM hN U G M (fun E w' e=>by cases e;simp))
  have D:Gv g H:=by
   cases g with
   |none=>trivial
   |some p=>
    obtain⟨E,w'⟩:=p;simp only[Gv]at hg ⊢;rw[p3 E (fun hi=>dR bd U E hi (by simp[hgi E w' rfl]))];exact hg
  have hd:d<H.length:=by omega
  have u:cP C ((d,.v (.bool y))::edel e (d::bT bd kl)) (H.set d (.v (.bool y))):=.put hd (.cl (.v _)) (fun i w hw=>by
   obtain⟨z,q1,q2,q3⟩:=he.edel (d::bT bd kl) i w hw;have R:i∉bT bd []:=fun hi=>q3 (by simp[(cD bd kl i).2 (.inl hi)]);exact⟨z,by rw[p3 i R];exact q1,q2,fun J=>q3 (by simp[J])⟩)
  obtain⟨a0,m,s2,V,W,Y,Z,r5⟩:=qV F r a (d::l) g C n h _ (H.set d (.v (.bool y))) s1 x b hk u (hM.grow p4) (by simpa using p2) o6 hx (D.set hgi q) hgi;refine⟨_,m,s2,p1.append (.op (o:=⟨some d,.pick,_,g⟩) D.wanted p5 rfl p6 V),W,Y,fun i hi=>?_,p4.trans r5⟩;simp only[bT,kM2,cD bd (bT r []) i,mJ2]at hi;rw[Z i hi.2.2,kK2 (Ne.symm hi.1),p3 i hi.2.1];exact aD hk
 |.sto k xs kl r,a,l,g,C,n,h,e,t,s,x,b,hk,he,hM,hN,ho,hx,hg,hgi=>by unfold cO.opsB at hk;exact aD hk
 |.ifn d c w bd x' kl r,a,l,g,C,n,h,e,t,s,x,b,hk,he,hM,hN,ho,hx,hg,hgi=>by unfold cO.opsB at hk;exact aD hk
 |.mkfl d ty zero xs kl r,a,l,g,C,n,h,e,t,s,x,b,hk,he,hM,hN,ho,hx,hg,hgi=>by unfold cO.opsB at hk;exact aD hk
 |.lax d es r,a,l,g,C,n,h,e,t,s,x,b,hk,he,hM,hN,ho,hx,hg,hgi=>by unfold cO.opsB at hk;exact aD hk
 |.own d ty es g' r,a,l,g,C,n,h,e,t,s,x,b,hk,he,hM,hN,ho,hx,hg,hgi=>by unfold cO.opsB at hk;exact aD hk
 |.ownc d j ty es g' r,a,l,g,C,n,h,e,t,s,x,b,hk,he,hM,hN,ho,hx,hg,hgi=>by unfold cO.opsB at hk;exact aD hk
 |.laxc d j es r,a,l,g,C,n,h,e,t,s,x,b,hk,he,hM,hN,ho,hx,hg,hgi=>by unfold cO.opsB at hk;exact aD hk
 |.fz d j r,a,l,g,C,n,h,e,t,s,x,b,hk,he,hM,hN,ho,hx,hg,hgi=>by unfold cO.opsB at hk;exact aD hk
 |.laxm d j r,a,l,g,C,n,h,e,t,s,x,b,hk,he,hM,hN,ho,hx,hg,hgi=>by unfold cO.opsB at hk;exact aD hk
end
end Go.P
namespace Go.P
open Go.Sim (AV AO Hp eO upd St IC IX Ex dQ CK Wf Out doOp gA exec Foot wanted put)
def iR (C:Cx) (p:Nat->Bool):Cx:=⟨fun k=>if p k then C k else none,C.z⟩
theorem uI {C:Cx} {p:Nat->Bool} {x:PV} {y:AV} (h:RV C x y):∀{d:Nat},jP p d x=true->RV (iR C p) x y:=by
 have lt:∀{k:Nat} {pl:Pl},C k=some pl->p k=true->iR C p k=some pl:=fun h1 h2=>by simp[iR,h2,h1]
 induction h with
 |cl h=>intro d hb;exact .cl h
 |undef=>intro d hb;exact .undef
 |ref h=>intro d hb;cases d with
  |zero=>cases hb
  |succ d=>exact .ref (lt h hb)
 |own h=>intro d hb;cases d with
  |zero=>cases hb
  |succ d=>exact .own (lt h hb)
 |ownn h hy=>intro d hb;cases d with
  |zero=>cases hb
  |succ d=>exact .ownn (lt h hb) hy
 |el h=>intro d hb;cases d with
  |zero=>cases hb
  |succ d=>exact .el (lt h hb)
 |map h=>intro d hb;cases d with
  |zero=>cases hb
  |succ d=>exact .map (lt h hb)
 |yld h=>intro d hb;cases d with
  |zero=>cases hb
  |succ d=>exact .yld (lt h hb)
 |fn h1 h2 v1 v2 i1 i2=>intro d hb;cases d with
  |zero=>cases hb
  |succ d=>
   simp only[jP,jO2]at hb;exact .fn h1 h2 (fun j x y a hy=>i1 j x y a hy (jV2.1 hb.1 x (kA2 a))) (fun j x y a hy=>i2 j x y a hy (jV2.1 hb.2 x (kA2 a)))
 |agg hl hc ih=>intro d hb;cases d with
  |zero=>cases hb
  |succ d=>exact .agg hl (fun j x y a hy=>ih j x y a hy (jV2.1 hb x (kA2 a)))
 |tup hl hc ih=>intro d hb;cases d with
  |zero=>cases hb
  |succ d=>exact .tup hl (fun j x y a hy=>ih j x y a hy (jV2.1 hb x (kA2 a)))
 |zs h=>intro d hb;exact .zs h
 |zm h he=>intro d hb;exact .zm h he
 |zm0=>intro d hb;exact .zm0
theorem uJ:∀(h:aN) (k:Nat),fX h k=(aK h k).isSome
 |[],k=>rfl
 |(j,o)::r,k=>by
  simp only[fX,aK,bG]
  by_cases e:j=k<;>simp[e,uJ r k]
section
variable {R:Type}
theorem nW:∀{h:aN} {c:aA Nat} {K:aN->aN->aB R} {r:R},Eu h c K=some r->∃a b,K a b=some r/\∀k,aK a k=(if yC k c then aK h k else none)/\aK b k=(if yC k c then none else aK h k)
 |[],c,K,r,hk=>⟨[],[],hk,fun k=>by simp[aK]⟩
 |(j,o)::t,c,K,r,hk=>by
  unfold Eu at hk
  obtain⟨a,b,h1,h2⟩:=nW hk
  cases hm:yC j c with
  |true=>
   rw[hm,kD2]at h1
   refine⟨_,_,h1,fun k=>?_⟩
   simp only[aK]
   by_cases e:j=k
   grind
   grind
  |false=>
   rw[hm,kQ2]at h1
   refine⟨_,_,h1,fun k=>?_⟩
   simp only[aK]
   by_cases e:j=k
   grind
   grind
theorem zW:∀{a b:aN} {K:aN->aB R} {r:R},wF a b K=some r->∃c,K c=some r/\∀k,aK c k=(aK a k).or (aK b k)
 |[],b,K,r,hk=>⟨b,hk,fun k=>by simp[aK]⟩
 |(j,o)::t,b,K,r,hk=>by
  unfold wF at hk
  obtain⟨c,h1,h2⟩:=zW hk
  refine⟨_,h1,fun k=>?_⟩
  simp only[aK]
  by_cases e:j=k
  simp[e]
  grind
theorem zX:∀(a:aN) (K:aN->aB R),wF a [] K=K a
 |[],K=>rfl
 |(j,o)::t,K=>by unfold wF;rw[zX t]
theorem eL {f:PV->aA Nat->(aA Nat->aB R)->aB R} (hf:∀x a K r,f x a K=some r->∃a',K a'=some r):∀(xs:aA PV) (a:aA Nat) (K:aA Nat->aB R) (r:R),nC f xs a K=some r->∃a',K a'=some r
 |[],a,K,r,h=>⟨a,h⟩
 |x::xs,a,K,r,h=>by
  unfold nC at h
  obtain⟨a',h⟩:=hf x a _ r h
  exact eL hf xs a' K r h
theorem wX {f:PV->aA Nat->(aA Nat->aB R)->aB R} (hf:∀x a K r,f x a K=some r->∃a',K a'=some r):∀(xs:dS) (a:aA Nat) (K:aA Nat->aB R) (r:R),Kk f xs a K=some r->∃a',K a'=some r
 |[],a,K,r,h=>⟨a,h⟩
 |(_,x)::xs,a,K,r,h=>by
  unfold Kk at h
  obtain⟨a',h⟩:=hf x a _ r h
  exact wX hf xs a' K r h
theorem fQ:∀(d:Nat) (x:PV) (a:aA Nat) (K:aA Nat->aB R) (r:R),iN d x a K=some r->∃a',K a'=some r
 |0,x,a,K,r,h=>by unfold iN at h;exact aD h
 |d+1,x,a,K,r,h=>by
  have ih:=fQ d
  unfold iN at h
  cases x with
  |ref k o=>exact⟨_,h⟩
  |own k=>exact⟨_,h⟩
  |el k i o=>exact⟨_,h⟩
  |map k=>exact⟨_,h⟩
  |yld k=>exact⟨_,h⟩
  |fn f p q=>
   obtain⟨a',h⟩:=eL ih p a _ r h
   exact eL ih q a' K r h
  |agg cs=>exact eL ih cs a K r h
  |tup cs=>exact eL ih cs a K r h
  |_=>exact⟨_,h⟩
theorem dV {h:aN}:∀(n:Nat) (b a:aA Nat) (K:aA Nat->aB R) (r:R),jO h n b a K=some r->∃a',K a'=some r
 |0,b,a,K,r,hk=>by unfold jO at hk;exact aD hk
 |n+1,[],a,K,r,hk=>by unfold jO at hk;exact⟨a,hk⟩
 |n+1,k::b,a,K,r,hk=>by
  unfold jO at hk
  cases hm:yC k a with
  |true=>rw[hm,kD2]at hk;exact dV n b a K r hk
  |false=>
   rw[hm,kQ2,dX,jN2]at hk
   obtain⟨ob,_,hk⟩:=hk
   cases ob with
   |box cs=>
    obtain⟨c,hk⟩:=eL (fQ 4) cs b _ r hk
    exact dV n c _ K r hk
   |fl cs=>
    obtain⟨c,hk⟩:=eL (fQ 4) cs b _ r hk
    exact dV n c _ K r hk
   |loop N e ps x y busy fin=>
    obtain⟨c,hk⟩:=wX (fQ 4) e b _ r hk
    exact dV n c _ K r hk
   |lst ty e g rows=>exact dV n b _ K r hk
   |lz ty e dp rows=>exact dV n b _ K r hk
   |mp es=>exact dV n b _ K r hk
def Sq (hs:aN) (C C':Cx):Prop:=(∀k,C' k=C k\/∃o,(k,o)∈hs/\eE o=false)/\∀id o,C.z id=some o->C'.z id=some o
theorem pE:∀{hs:aN} {e:dS} {h:aN} {K:dS->aN->aB R} {r:R},lV hs e h K=some r->∃e' h',K e' h'=some r/\
  (∀i w,dK e' i=some w->∃v,dK e i=some v/\∀{C C':Cx} {y:AV},Sq hs C C'->RV C v y->RV C' w y)/\
  (∀j,aK h' j=none↔aK h j=none)/\∀j o',aK h' j=some o'->∃o,aK h j=some o/\eE o'=eE o/\
   ∀{C C':Cx} {L:Nat->aB AO} {lim nS:Nat} {pl:Pl},Sq hs C C'->iA C L lim nS o pl->iA C' L lim nS o' pl
 |[],e,h,K,r,hk=>by
  refine⟨e,h,hk,fun i w hw=>⟨w,hw,fun{C C' y} hd hv=>?_⟩,fun j=>Iff.rfl,fun j o m=>⟨o,m,rfl,fun{C C' L lim nS pl} hd p=>?_⟩⟩
  have:∀k,C' k=C k:=fun k=>(hd.1 k).elim id (fun⟨_,h1,_⟩=>by simp at h1)
  exact hv.mono ⟨fun k pl h=>(this k).trans h,hd.2⟩
  have:∀k,C' k=C k:=fun k=>(hd.1 k).elim id (fun⟨_,h1,_⟩=>by simp at h1)
  exact p.mono (jR2 _) ⟨fun k pl h=>(this k).trans h,hd.2⟩ (fun _ _ _ _ _=>rfl)
 |(k,o)::t,e,h,K,r,hk=>by
  have other:eE o=true->lV t e h K=some r->∃e' h',K e' h'=some r/\
    (∀i w,dK e' i=some w->∃v,dK e i=some v/\∀{C C':Cx} {y:AV},Sq ((k,o)::t) C C'->RV C v y->RV C' w y)/\
    (∀j,aK h' j=none↔aK h j=none)/\∀j o',aK h' j=some o'->∃c,aK h j=some c/\eE o'=eE c/\
     ∀{C C':Cx} {L:Nat->aB AO} {lim nS:Nat} {pl:Pl},Sq ((k,o)::t) C C'->iA C L lim nS c pl->iA C' L lim nS o' pl:=by
   intro s hk;obtain⟨e',h',q1,q2,q3,q4⟩:=pE hk
   have hd:∀{C C':Cx},Sq ((k,o)::t) C C'->Sq t C C':=fun{C C'} hd=>⟨fun j=>by
    rcases hd.1 j with h1|⟨c,h1,hx⟩
    exact .inl h1;rcases kM2.1 h1 with h2|h2;cases h2;rw[s]at hx;cases hx;exact .inr ⟨_,h2,hx⟩,hd.2⟩
   refine⟨e',h',q1,fun i w hw=>?_,q3,fun j o' m=>?_⟩;obtain⟨v,p1,p2⟩:=q2 i w hw;exact⟨v,p1,fun d hv=>p2 (hd d) hv⟩;obtain⟨c,p1,p2,p3⟩:=q4 j o' m;exact⟨c,p1,p2,fun d p=>p3 (hd d) p⟩
  have f:eE o=false->(mC k e fun e=>iK k h fun h=>lV t e h K)=some r->∃e' h',K e' h'=some r/\
    (∀i w,dK e' i=some w->∃v,dK e i=some v/\∀{C C':Cx} {y:AV},Sq ((k,o)::t) C C'->RV C v y->RV C' w y)/\
    (∀j,aK h' j=none↔aK h j=none)/\∀j o',aK h' j=some o'->∃c,aK h j=some c/\eE o'=eE c/\
     ∀{C C':Cx} {L:Nat->aB AO} {lim nS:Nat} {pl:Pl},Sq ((k,o)::t) C C'->iA C L lim nS c pl->iA C' L lim nS o' pl:=by
   intro hb hk;obtain⟨e2,hk,q⟩:=iC _ _ _ hk;obtain⟨h2,hk,n⟩:=jE _ _ _ hk;obtain⟨e',h',q1,q2,q3,q4⟩:=pE hk
   have l:∀{C C':Cx},Sq ((k,o)::t) C C'->iZ k C ⟨fun j=>if j=k then C' j else C j,C'.z⟩/\Sq t ⟨fun j=>if j=k then C' j else C j,C'.z⟩ C':=fun{C C'} hd=>by
    refine⟨⟨fun j m=>jU2 m,hd.2⟩,⟨fun j=>?_,fun _ _ h=>h⟩⟩;by_cases e:j=k;exact .inl (by simp[e]);rcases hd.1 j with h1|⟨c,h1,hx⟩
    exact .inl (by simp[e,h1]);rcases kM2.1 h1 with h2|h2;cases h2;exact absurd rfl e;exact .inr ⟨_,h2,hx⟩
   refine⟨e',h',q1,fun i w hw=>?_,fun j=>(q3 j).trans (n.1 j),fun j o' m=>?_⟩;obtain⟨v,p1,p2⟩:=q2 i w hw;obtain⟨x,w1,w2⟩:=q i v p1;exact⟨x,w1,fun d hv=>p2 (l d).2 (w2 (l d).1 hv)⟩;obtain⟨c,p1,p2,p3⟩:=q4 j o' m;obtain⟨u,w1,w2,w3⟩:=n.2 j c p1;exact⟨u,w1,p2.trans w2,fun d p=>p3 (l d).2 (w3 (l d).1 p)⟩
  unfold lV at hk;cases o with
  |box cs=>exact other rfl hk
  |mp es=>exact other rfl hk
  |fl fs=>exact other rfl hk
  |loop N e ps a b busy fin=>exact other rfl hk
  |lz ty e1 dp rows=>exact f rfl hk
  |lst ty e1 g rows=>
   cases hfx:fE ty with
   |true=>
    simp only[hfx,kD2]at hk;exact other hfx hk
   |false=>
    simp only[hfx,kQ2]at hk;exact f hfx hk
end
end Go.P
namespace Go.P
open Go.Sim (AV AO Hp eO upd St IC IX Ex dQ CK Wf Out doOp gA exec Foot wanted put)
section
variable {R:Type} {C:Cx} {n:Nat} {h:aN} {lim:Nat} {s:Hp}
theorem wY:∀{e:dS} {i:Nat} {v:PV},dK e i=some v->(i,v)∈e
 |[],i,v,h=>by simp[dK]at h
 |(j,w)::r,i,v,h=>by
  simp only[dK]at h
  split at h
  grind
  exact mL2 _ (wY h)
theorem Fk:∀{h:aN} {i:Nat} {v:fG},aK h i=some v->(i,v)∈h
 |[],i,v,h=>by simp[aK]at h
 |(j,w)::r,i,v,h=>by
  simp only[aK]at h
  split at h
  grind
  exact mL2 _ (Fk h)
theorem Bi {p:Nat->Bool} {xs:aA PV} {ys:aA AV} {d:Nat} (h:LR (RV C) xs ys) (hp:xs.all (jP p d)=true):LR (RV (iR C p)) xs ys:=
 ⟨h.1,fun j x y a b=>uI (h.2 j x y a b) (jV2.1 hp x (kA2 a))⟩
theorem Sr {p:Nat->Bool} {L:Nat->aB AO} {nS:Nat} {o:fG} {pl:Pl} (m:Ba p o=true) (h:iA C L lim nS o pl):iA (iR C p) L lim nS o pl:=by
 cases o with
 |box cs=>
  cases pl with
  |nil=>exact h
  |atp id ver e len=>
   obtain⟨h1,h2,ty,esz,row,c,j⟩:=h;exact⟨h1,h2,ty,esz,row,c,Bi j m⟩
 |lst ty e g rows=>cases pl<;>exact h
 |lz ty e dp rows=>cases pl<;>exact h
 |mp es=>cases pl<;>exact h
 |fl fs=>
  cases pl with
  |nil=>exact h
  |atp id ver e len=>
   obtain⟨h1,h2,c,j,ty,els,k,l,n⟩:=h;refine⟨h1,h2,c,j,ty,els,k,l,fun i f row a b=>Bi (d:=4) (n i f row a b) ?_⟩;have:=jV2.1 m f (kA2 a);simp[this]
 |loop N e ps a b busy fin=>
  cases pl with
  |nil=>exact h
  |atp id ver e' len=>
   obtain⟨h1,h2,st,pend,tmps,c,j,k,l⟩:=h;refine⟨h1,h2,st,pend,tmps,c,j,fun i v hv=>?_,l⟩;obtain⟨y,q,r⟩:=k i v hv;exact⟨y,q,uI r (jV2.1 m _ (wY hv))⟩
theorem qW {p:Nat->Bool}:∀{h:aN},gY p h=true->∀{k:Nat} {o:fG},aK h k=some o->Ba p o=true
 |[],_,k,o,h=>by simp[aK]at h
 |(j,o')::r,hp,k,o,h=>by
  simp only[gY,jO2]at hp
  simp only[aK]at h
  split at h
  cases h;exact hp.1
  exact qW hp.2 h
theorem pF:∀{h:aN} {k:Nat},aK h k≠none->k∈pA h
 |[],k,h=>by simp[aK]at h
 |(j,o)::r,k,h=>by
  simp only[aK]at h
  simp only[pA,kM2]
  split at h
  omega
  exact .inr (pF h)
theorem sI {a:aN}:∀{ks:aA Nat},Na a ks=true->∀k∈ks,aK a k≠none
 |[],_,k,hk=>by simp at hk
 |j::r,h,k,hk=>by
  unfold Na at h
  cases hh:fX a j with
  |false=>rw[hh]at h;cases h
  |true=>
   rw[hh,kD2]at h
   rcases kM2.1 hk with rfl|hk
   rw[uJ]at hh
   cases hg:aK a k with
   |none=>rw[hg]at hh;cases hh
   |some o=>simp
   exact sI h k hk
theorem zY {hs:aN}:∀{a:aN},Mz hs n a=true->∀{k:Nat},aK a k≠none->aK hs k≠none\/n<=k
 |[],_,k,hk=>by simp[aK]at hk
 |(j,o)::r,h,k,hk=>by
  unfold Mz at h
  cases b:(fX hs j||Nat.ble n j)with
  |false=>rw[b]at h;cases h
  |true=>
   rw[b,kD2]at h
   simp only[aK]at hk
   split at hk
   rename_i e
   subst e
   simp only[kE2,uJ,Nat.ble_eq]at b
   rcases b with b|b
   grind
   exact .inr b
   exact zY h hk
theorem hJ {h:aN} {k:Nat}:fX h k=true↔aK h k≠none:=by
 rw[uJ];cases aK h k<;>simp
theorem cA.part {hs:aN} (g:cA C n h lim s) (f:∀k o,aK hs k=some o->aK h k=some o) (m:gY (fX hs) hs=true):cA (iR C (fX hs)) n hs lim s:=by
 have j:∀k,aK hs k≠none->aK h k≠none:=fun k hk=>by
  cases hc:aK hs k with
  |none=>exact absurd hc hk
  |some o=>rw[f k o hc];simp
 have i:∀k pl,iR C (fX hs) k=some pl->C k=some pl:=fun k pl hk=>by
  simp only[iR]at hk;split at hk;exact hk;cases hk
 refine⟨⟨fun k o hk=>?_,fun k k' id v e l v' e' l' a b c d=>g.hr.inj k k' id v e l v' e' l' (j k a) (j k' b) (i _ _ c) (i _ _ d),fun id o p=>?_⟩,fun k pl hk=>g.dom k pl (i k pl hk),g.wf,g.lim⟩;obtain⟨pl,h1,h2⟩:=g.hr.ob k o (f k o hk);refine⟨pl,?_,Sr (qW m hk) h2⟩;simp only[iR];rw[jX2 (hJ.2 (by rw[hk];simp))];exact h1;obtain⟨z1,z2,z3,z4⟩:=g.hr.zr id o p;exact⟨z1,z2,fun k v e l a b=>z3 k v e l (j k a) (i _ _ b),z4⟩
theorem nX {hs:aN}:∀{a:aN},Nb hs a=true->∀{k:Nat},aK a k≠none->aK hs k≠none
 |[],_,k,hk=>by simp[aK]at hk
 |(j,o)::r,h,k,hk=>by
  unfold Nb at h
  cases hh:fX hs j with
  |false=>rw[hh]at h;cases h
  |true=>
   rw[hh,kD2]at h
   simp only[aK]at hk
   split at hk
   rename_i e;subst e;exact hJ.1 hh
   exact nX h hk
theorem Bj:∀(h:aN) (m:Nat),m<=Vp h m
 |[],m=>jR2 _
 |(k,o)::r,m=>by
  unfold Vp
  cases hb:Nat.blt k m with
  |true=>rw[kD2];exact Bj r m
  |false=>
   rw[kQ2]
   have:=Bj r (k+1)
   have h2:¬k<m:=fun a=>by rw[<-lW2,hb]at a;cases a
   omega
theorem wZ:∀(h:aN) (m k:Nat),aK h k≠none->k<Vp h m
 |[],m,k,hk=>by simp[aK]at hk
 |(j,o)::r,m,k,hk=>by
  simp only[aK]at hk
  unfold Vp
  cases hb:Nat.blt j m with
  |true=>
   rw[kD2]
   split at hk
   rename_i e
   rw[lW2]at hb
   have:=Bj r m
   omega
   exact wZ r m k hk
  |false=>
   rw[kQ2]
   split at hk
   have:=Bj r (j+1);omega
   exact wZ r (j+1) k hk
theorem Bl {P:AV->Hp->Prop} {run:aN->Nat->(PV->aN->Nat->aB (PV×aN×Nat))->aB (PV×aN×Nat)} {xs:aA PV} {ys:aA AV} {e:dS} {t:aA AV} {kill:aA Nat} {nw:Bool} {K:PV->dS->aN->Nat->aB R} {r:R}
  (E:cA C n h lim s) (he:cP C e t) (hx:LR (RV C) xs ys)
  (b6:∀(hs:aN) (C0:Cx) (m:Nat) (K':PV->aN->Nat->aB (PV×aN×Nat)) (r':PV×aN×Nat),cA C0 m hs lim s->LR (RV C0) xs ys->run hs m K'=some r'->
   ∃v h' n' C' y s',K' v h' n'=some r'/\RV C' v y/\cA C' n' h' lim s'/\m<=n'/\Fr C0 hs s C' h' s'/\P y s')
  (hk:inK run nw xs e h n kill K=some r):
  ∃v e' h' n' C' y s',K v e' h' n'=some r/\RV C' v y/\(∀i w,dK e' i=some w->∃z,t[i]? =some z/\RV C' w z/\i∉kill)/\cA C' n' h' lim s'/\n<=n'/\Fr C h s C' h' s'/\P y s':=by
 unfold inK at hk;obtain⟨d8,hk⟩:=eL (fQ 5) _ _ _ _ hk;obtain⟨ns,hk⟩:=dV _ _ _ _ _ hk;obtain⟨hs,T,hk,u⟩:=nW hk;cases hch:(xs.all (jP (fX hs) 5)&&gY (fX hs) hs)with
 |false=>rw[hch]at hk;exact aD hk
 |true=>
 rw[hch,kD2,bL,jN2]at hk;obtain⟨r',hq,hk⟩:=hk;simp only[jO2]at hch
 have G:∀k o,aK hs k=some o->aK h k=some o:=fun k o f=>by
  rw[(u k).1]at f;split at f;exact f;cases f
 have b7:∀{k},aK hs k≠none->k<n:=fun{k} hk=>by
  cases hc:aK hs k with
  |none=>exact absurd hc hk
  |some o=>obtain⟨pl,p1,_⟩:=E.hr.ob k o (G k o hc);exact E.dom k pl p1
 have F:=E.part G hch.2
 have b9:cA (iR C (fX hs)) (bif nw then n else Vp hs 0) hs lim s:=⟨F.hr,(fun k pl j=>by
  cases nw with
  |true=>exact F.dom k pl j
  |false=>
   simp only[iR]at j;split at j;rename_i O;exact wZ hs 0 k (hJ.1 O);cases j),F.wf,F.lim⟩
 obtain⟨v,h',n',C',y,s',w1,w2,w3,w4,w5,w6⟩:=b6 hs _ _ _ r' b9 (Bi hx hch.1) hq;unfold yD at w1;obtain⟨d7,w1⟩:=eL (fQ 5) _ _ _ _ w1;obtain⟨d9,w1⟩:=dV _ _ _ _ _ w1;obtain⟨h2,_,w1,U⟩:=nW w1;cases hch2:(Na h2 (pA hs)&&(bif nw then Mz hs (bif nw then n else Vp hs 0) h2 else Nb hs h2)&&(jP (fX h2) 5 v&&gY (fX h2) h2))with
 |false=>rw[hch2]at w1;exact aD w1
 |true=>
 rw[hch2,kD2]at w1;cases w1;simp only[jO2]at hch2;obtain⟨⟨c1,c2⟩,c3,c4⟩:=hch2;have d2:∀{k},aK hs k≠none->aK h2 k≠none:=fun{k} hk=>sI c1 k (pF hk)
 have V:∀{k},aK h2 k≠none->aK hs k≠none\/n<=k:=fun{k} S=>by
  cases nw with
  |true=>exact zY c2 S
  |false=>exact .inl (nX c2 S)
 have A:∀k o,aK h2 k=some o->aK h' k=some o:=fun k o f=>by
  rw[(U k).1]at f;split at f;exact f;cases f
 have d1:=w3.part A c4;rw[Kq]at hk;simp only[zX,dL]at hk;obtain⟨e',H,hk,k1,k2,k3⟩:=pE hk;obtain⟨hc,hk,k4⟩:=zW hk;let C3:Cx:=⟨fun k=>if fX h2 k then C' k else C k,C'.z⟩
 let C1:Cx:=⟨fun k=>if k<n then C3 k else none,C'.z⟩
 have c3in:∀{k},aK h2 k≠none->C3 k=C' k:=fun{k} hk=>jX2 (hJ.2 hk);have c3out:∀{k},aK h2 k=none->C3 k=C k:=fun{k} hk=>jU2 (fun O=>hJ.1 O hk)
 have S:∀{k},aK h k≠none->k<n:=fun{k} hk=>by
  cases hc:aK h k with
  |none=>exact absurd hc hk
  |some o=>obtain⟨pl,p1,_⟩:=E.hr.ob k o hc;exact E.dom k pl p1
 have d5:∀{k},aK hs k≠none->aK h k≠none:=fun{k} hk=>by
  cases hc:aK hs k with
  |none=>exact absurd hc hk
  |some o=>rw[G k o hc];simp
 have rs:∀{k},aK hs k≠none->iR C (fX hs) k=C k:=fun{k} hk=>by simp only[iR];rw[jX2 (hJ.2 hk)]
 have d6:∀{k pl},iR C (fX hs) k=some pl->C k=some pl:=fun{k pl} hk=>by
  simp only[iR]at hk;split at hk;exact hk;cases hk
 have Y:∀{k pl},iR C' (fX h2) k=some pl->C3 k=some pl:=fun{k pl} hk=>by
  simp only[iR]at hk;split at hk;rename_i O;rw[c3in (hJ.1 O)];exact hk;cases hk
 have Z:Sq h2 C C1:=⟨fun k=>(by
  by_cases b0:k<n;have e1:C1 k=C3 k:=jX2 b0;rw[e1];by_cases g:aK h2 k=none;exact .inl (c3out g);rw[c3in g];rcases V g with hq|hq;cases hc2:aK hs k with
  |none=>exact absurd hc2 hq
  |some o=>
   obtain⟨o',q1,q2⟩:=w5.kd k o hc2
   have q3:aK h2 k=some o':=by
    cases hc3:aK h2 k with
    |none=>exact absurd hc3 g
    |some o2=>rw[A k o2 hc3]at q1;exact q1
   cases hb:eE o' with
   |true=>left;rw[(q2 hb).2,rs hq]
   |false=>
    right;exact⟨o',Fk q3,hb⟩
  omega;left;have:C1 k=none:=jU2 b0;rw[this,Ro E (by omega)]),w5.zl⟩
 have c13:C1.le C3:=⟨fun k pl hk=>(by
  simp only[C1]at hk;split at hk;exact hk;cases hk),fun _ _ h=>h⟩
 have M:∀{k o'},aK H k=some o'->∃o,aK h k=some o/\aK hs k=none/\aK h2 k=none/\eE o'=eE o/\∀{L:Nat->aB AO} {lim nS:Nat} {pl:Pl},iA C L lim nS o pl->iA C1 L lim nS o' pl:=fun{k o'} f=>by
  obtain⟨o,q1,q2,q3⟩:=k3 k o' f;rw[(u k).2]at q1;split at q1;cases q1;rename_i W;have h1:aK hs k=none:=by rw[(u k).1,jU2 W]
  refine⟨o,q1,h1,?_,q2,fun d4=>q3 Z d4⟩;cases hc2:aK h2 k with
  |none=>rfl
  |some o2=>
   rcases V (k:=k) (by rw[hc2];simp)with q|q;exact absurd h1 q;have:=S (k:=k) (by rw[q1];simp);omega
 have N:∀{k},aK hc k≠none->aK h2 k≠none\/(aK h2 k=none/\aK H k≠none):=fun{k} hk=>by
  rw[k4 k]at hk;cases hc2:aK h2 k with
  |none=>right;refine⟨rfl,?_⟩;rw[hc2]at hk;simpa using hk
  |some o=>left;simp
 have p:∀{k},aK H k≠none->aK h k≠none/\aK hs k=none/\aK h2 k=none:=fun{k} hk=>by
  cases hc2:aK H k with
  |none=>exact absurd hc2 hk
  |some o'=>obtain⟨o,q1,q2,q3,_⟩:=M hc2;exact⟨by rw[q1];simp,q2,q3⟩
 have J:∀{k},aK h2 k≠none->aK h' k≠none:=fun{k} hk=>by
  cases hc2:aK h2 k with
  |none=>exact absurd hc2 hk
  |some o=>rw[A k o hc2];simp
 have B:∀{id},Own (iR C (fX hs)) hs id->∃k v e l,aK hs k≠none/\aK h k≠none/\C k=some (.atp id v e l):=fun{id} T=>by
  obtain⟨k,v,e,l,q1,q2⟩:=T;exact⟨k,v,e,l,q1,d5 q1,d6 q2⟩
 have D:∀{k id v e l},aK h k≠none->aK hs k=none->C k=some (.atp id v e l)->¬Own (iR C (fX hs)) hs id:=fun{k id v e l} a b c T=>by
  obtain⟨k',v',e',l',q1,q2,q3⟩:=B T;have:=E.hr.inj k k' id _ _ _ _ _ _ a q2 c q3;subst this;exact q1 b
 have b8:∀{k k' id v e l v' e' l'},aK h2 k≠none->aK H k'≠none->C3 k=some (.atp id v e l)->C3 k'=some (.atp id v' e' l')->False:=fun{k k' id v e l v' e' l'} a b c d=>by
  obtain⟨b1,b2,b3⟩:=p b;rw[c3in a]at c;rw[c3out b3]at d;have x:=(E.hr.lt b1 d).2;exact D b1 b2 d (w5.own id x ⟨k,v,e,l,J a,c⟩)
 refine⟨v,e',hc,_,C3,y,s',hk,(uI w2 c3).mono ⟨fun _ _ O=>Y O,fun _ _ h=>h⟩,fun i w hw=>?_,⟨⟨fun k o f=>?_,fun k k' id v e l v' e' l' a b c d=>?_,fun id o hz=>?_⟩,fun k pl j=>?_,w3.wf,w3.lim⟩,?_,⟨w5.sk,w5.n,fun id x hn=>w5.keep id x (fun T=>hn ?_),fun id x T=>?_,fun k o f=>?_,w5.zl,fun id x hz=>?_⟩,w6⟩;obtain⟨v0,q1,q2⟩:=k1 i w hw;obtain⟨z,p1,p2,p3⟩:=he.edel kill i v0 q1;exact⟨z,p1,(q2 Z p2).mono c13,p3⟩;rw[k4 k]at f;cases hc2:aK h2 k with
 |some o2=>
  rw[hc2]at f;cases f;obtain⟨pl,q1,q2⟩:=d1.hr.ob k _ hc2;exact⟨pl,Y q1,q2.mono (jR2 _) ⟨fun _ _ O=>Y O,fun _ _ h=>h⟩ (fun _ _ _ _ _=>rfl)⟩
 |none=>
  rw[hc2]at f;obtain⟨o0,q1,q2,q3,q4,q5⟩:=M (by simpa using f);obtain⟨pl,p1,p2⟩:=E.hr.ob k o0 q1;refine⟨pl,by rw[c3out hc2];exact p1,(q5 p2).mono w5.n c13 (fun id v e l hp=>?_)⟩;subst hp;exact w5.keep id p2.lt.2 (D (by rw[q1];simp) q2 p1)
 rcases N a with a|⟨a1,a⟩<;>rcases N b with b|⟨b1,b⟩
 rw[c3in a]at c;rw[c3in b]at d;exact w3.hr.inj k k' id v e l v' e' l' (J a) (J b) c d;exact(b8 a b c d).elim;exact(b8 b a d c).elim;rw[c3out a1]at c;rw[c3out b1]at d;exact E.hr.inj k k' id v e l v' e' l' (p a).1 (p b).1 c d;obtain⟨z1,z2,z3,z4⟩:=w3.hr.zr id o hz;refine⟨z1,z2,fun k v e l a b=>?_,z4⟩;rcases N a with a|⟨a1,a⟩
 rw[c3in a]at b;exact z3 k v e l (J a) b;rw[c3out a1]at b;obtain⟨b1,b2,b3⟩:=p a;have x:=(E.hr.lt b1 b).2;rcases w5.zn id x (by rw[show C'.z id=some o from hz];simp)with X|X;cases hz1:C.z id with
 |none=>exact X hz1
 |some o1=>exact(E.hr.zr id o1 hz1).2.2.1 k v e l b1 b
 exact D b1 b2 b X;cases nw with
 |true=>
  simp only[kD2]at w4 ⊢;by_cases g:aK h2 k=none;rw[c3out g]at j;have:=E.dom k pl j;omega;rw[c3in g]at j;exact w3.dom k pl j
 |false=>
  simp only[kQ2];by_cases g:aK h2 k=none;rw[c3out g]at j;exact E.dom k pl j;exact b7 (nX c2 g)
 cases nw with
 |true=>exact w4
 |false=>exact jR2 _
 obtain⟨k,v,e,l,q1,q2,q3⟩:=B T;exact⟨k,v,e,l,q2,q3⟩;obtain⟨k,v,e,l,q1,q2⟩:=T;rcases N q1 with a|⟨a1,a⟩
 rw[c3in a]at q2;obtain⟨k,v,e,l,p1,p2,p3⟩:=B (w5.own id x ⟨k,v,e,l,J a,q2⟩);exact⟨k,v,e,l,p2,p3⟩;rw[c3out a1]at q2;exact⟨k,v,e,l,(p a).1,q2⟩;rw[k4 k];by_cases W:aK hs k=none
 have b4:¬yC k ns=true:=fun d3=>by
  rw[(u k).1,jX2 d3,f]at W;cases W
 have a0:aK T k=some o:=by rw[(u k).2,jU2 b4];exact f
 cases hc2:aK H k with
 |none=>rw[(k2 k).1 hc2]at a0;cases a0
 |some o'=>
  obtain⟨o0,q1,q2,q3,q4,_⟩:=M hc2;rw[f]at q1;cases q1;exact⟨o',by rw[q3];rfl,fun hb=>⟨by rw[<-q4];exact hb,c3out q3⟩⟩
 cases hc2:aK hs k with
 |none=>exact absurd hc2 W
 |some o0=>
  have b5:=G k o0 hc2;rw[f]at b5;cases b5;obtain⟨o',q1,q2⟩:=w5.kd k o hc2;have g:=d2 W;cases hc3:aK h2 k with
  |none=>exact absurd hc3 g
  |some o2=>
   have:=A k o2 hc3;rw[q1]at this;cases this;exact⟨o',rfl,fun hb=>⟨(q2 hb).1,by rw[c3in g,(q2 hb).2,rs W]⟩⟩
 rcases w5.zn id x hz with h1|h1;exact .inl h1;obtain⟨k,v,e,l,q1,q2,q3⟩:=B h1;exact .inr ⟨k,v,e,l,q2,q3⟩
def fxo:fG->fG
 |.lst ty e g rows=>.lst (ty+4294967296) e g rows
 |o=>o
def zZ:fG->Bool
 |.lst .. =>true
 |_=>false
theorem gI1 (ty:Nat):fE (ty+4294967296)=true:=by
 unfold fE;rw[Nat.ble_eq];omega
theorem Xe {ty:Nat}:xU (ty+4294967296)=ty:=by
 unfold xU;rw[gI1,kD2];omega
theorem Ss {ty:Nat} (h:fE ty=false):xU ty=ty:=by
 unfold xU;rw[h,kQ2]
theorem Xf {ty:Nat} (h:fE ty=true):xU ty=ty-4294967296:=by
 unfold xU;rw[h,kD2]
theorem Lb {L:Nat->aB AO} {nS ty ty' e:Nat} {g:Bool} {rows:aA (aA PV)} {pl:Pl} (a:iA C L lim nS (.lst ty e g rows) pl) (b:xU ty'=xU ty):iA C L lim nS (.lst ty' e g rows) pl:=by
 cases pl with
 |nil=>exact a
 |atp id ver e' len=>
  obtain⟨a1,a2,a3,a4,els,a5,a6⟩:=a;exact⟨a1,a2,a3,a4,els,by rw[b];exact a5,a6⟩
theorem xA:∀{h:aN} {K:aN->aB R} {r:R},Ih h K=some r->∃h1,K h1=some r/\∀k,aK h1 k=(aK h k).map fxo/\∀ty e g rows,aK h k=some (.lst ty e g rows)->fE ty=false
 |[],K,r,hk=>⟨[],hk,fun k=>⟨rfl,fun _ _ _ _ h=>by simp[aK]at h⟩⟩
 |(j,o)::t,K,r,hk=>by
  unfold Ih at hk
  have other:zZ o=false->Ih t (fun r=>K ((j,o)::r))=some r->∃h1,K h1=some r/\∀k,aK h1 k=(aK ((j,o)::t) k).map fxo/\∀ty e g rows,aK ((j,o)::t) k=some (.lst ty e g rows)->fE ty=false:=by
   intro hl hk;obtain⟨h1,q1,q2⟩:=xA hk;refine⟨_,q1,fun k=>?_⟩;by_cases e:j=k;simp only[aK,jX2 e,kL2];refine⟨?_,fun _ _ _ _ h=>?_⟩;cases o<;>first|rfl|simp[zZ]at hl
   grind
   simp only[aK,jU2 e];exact q2 k
  cases o with
  |lst ty e g rows=>
   cases hfx:fE ty with
   |true=>simp only[hfx,kD2]at hk;exact aD hk
   |false=>
    simp only[hfx,kQ2]at hk;obtain⟨h1,q1,q2⟩:=xA hk;refine⟨_,q1,fun k=>?_⟩;by_cases c:j=k;simp only[aK,jX2 c,kL2];exact⟨rfl,fun _ _ _ _ h=>by cases h;exact hfx⟩;simp only[aK,jU2 c];exact q2 k
  |box cs=>exact other rfl hk
  |mp es=>exact other rfl hk
  |fl fs=>exact other rfl hk
  |loop N e ps a b busy fin=>exact other rfl hk
  |lz ty e dp rows=>exact aD hk
def UnR (h:aN) (k:Nat) (b c:fG):Prop:=∃a,aK h k=some a/\
 ((∃ty e g rows,b=.lst ty e g rows/\fE ty=true/\fE (ty-4294967296)=false/\c=.lst (ty-4294967296) e g rows)\/(c=b/\zZ a=false))
theorem Aa:∀{h h2:aN} {K:aN->aB R} {r:R},tL h h2 K=some r->∃c,K c=some r/\∀k,(aK c k=none↔aK h2 k=none)/\∀d,aK c k=some d->∃f,aK h2 k=some f/\UnR h k f d
 |h,[],K,r,hk=>⟨[],hk,fun k=>⟨Iff.rfl,fun _ h=>by simp[aK]at h⟩⟩
 |h,(j,o)::t,K,r,hk=>by
  unfold tL at hk
  rw[dX,jN2]at hk
  obtain⟨i,h0,hk⟩:=hk
  have step:∀d,UnR h j o d->tL h t (fun r=>K ((j,d)::r))=some r->∃c,K c=some r/\∀k,(aK c k=none↔aK ((j,o)::t) k=none)/\∀d,aK c k=some d->∃f,aK ((j,o)::t) k=some f/\UnR h k f d:=by
   intro d m hk;obtain⟨c,q1,q2⟩:=Aa hk;refine⟨_,q1,fun k=>?_⟩;by_cases e:j=k;subst e;simp only[aK,jX2];exact⟨by simp,fun n l=>⟨o,rfl,by cases l;exact m⟩⟩;simp only[aK,jU2 e];exact q2 k
  have no:zZ i=false->zZ o=false->tL h t (fun r=>K ((j,o)::r))=some r->∃c,K c=some r/\∀k,(aK c k=none↔aK ((j,o)::t) k=none)/\∀d,aK c k=some d->∃f,aK ((j,o)::t) k=some f/\UnR h k f d:=
   fun hl _ hk=>step o ⟨i,h0,.inr ⟨rfl,hl⟩⟩ hk
  cases i with
  |lst ty0 e0 g0 rows0=>
   cases o with
   |lst ty e g rows=>
    cases hfx:(fE ty&& !(fE (ty-4294967296)))with
    |false=>simp only[hfx,kQ2]at hk;exact aD hk
    |true=>
     simp only[hfx,kD2]at hk;simp only[jO2,kH2]at hfx;exact step _ ⟨_,h0,.inl ⟨ty,e,g,rows,rfl,hfx.1,hfx.2,rfl⟩⟩ hk
   |_=>exact aD hk
  |box cs=>cases o with
   |lst ty e g rows=>exact aD hk
   |lz ty e dp rows=>exact aD hk
   |_=>exact no rfl rfl hk
  |mp es=>cases o with
   |lst ty e g rows=>exact aD hk
   |lz ty e dp rows=>exact aD hk
   |_=>exact no rfl rfl hk
  |fl fs=>cases o with
   |lst ty e g rows=>exact aD hk
   |lz ty e dp rows=>exact aD hk
   |_=>exact no rfl rfl hk
  |loop N e ps a b busy fin=>cases o with
   |lst ty e g rows=>exact aD hk
   |lz ty e dp rows=>exact aD hk
   |_=>exact no rfl rfl hk
  |lz ty0 e0 dp0 rows0=>cases o with
   |lst ty e g rows=>exact aD hk
   |lz ty e dp rows=>exact aD hk
   |_=>exact no rfl rfl hk
theorem Su {fx:Bool} {P:AV->Hp->Prop} {run:aN->Nat->(PV->aN->Nat->aB (PV×aN×Nat))->aB (PV×aN×Nat)} {xs:aA PV} {ys:aA AV} {e:dS} {t:aA AV} {kill:aA Nat} {nw:Bool} {K:PV->dS->aN->Nat->aB R} {r:R}
  (q:cA C n h lim s) (he:cP C e t) (N:LR (RV C) xs ys)
  (p:∀(hs:aN) (C0:Cx) (m:Nat) (K':PV->aN->Nat->aB (PV×aN×Nat)) (r':PV×aN×Nat),cA C0 m hs lim s->LR (RV C0) xs ys->run hs m K'=some r'->
   ∃v h' n' C' y s',K' v h' n'=some r'/\RV C' v y/\cA C' n' h' lim s'/\m<=n'/\Fr C0 hs s C' h' s'/\P y s')
  (hk:fS1 fx run nw xs e h n kill K=some r):
  ∃v e' h' n' C' y s',K v e' h' n'=some r/\RV C' v y/\(∀i w,dK e' i=some w->∃z,t[i]? =some z/\RV C' w z/\i∉kill)/\cA C' n' h' lim s'/\n<=n'/\Fr C h s C' h' s'/\P y s':=by
 cases fx with
 |false=>exact Bl q he N p hk
 |true=>
  have hk:Ih h (fun h1=>inK run nw xs e h1 n kill fun v e h2 n=>tL h h2 fun u=>K v e u n)=some r:=hk;obtain⟨h1,hk,j⟩:=xA hk;have c:∀{k},aK h1 k≠none->aK h k≠none:=fun{k} hk A=>hk (by rw[(j k).1,A];rfl)
  have H:cA C n h1 lim s:=by
   refine⟨⟨fun k po hp=>?_,fun k k' i v1 F J v2 e2 L a1 a2 a3 a4=>q.hr.inj k k' i v1 F J v2 e2 L (c a1) (c a2) a3 a4,fun id o B=>?_⟩,q.dom,q.wf,q.lim⟩;rw[(j k).1]at hp;cases hh:aK h k with
   |none=>rw[hh]at hp;cases hp
   |some o=>
    rw[hh]at hp;cases hp;obtain⟨pl,p1,p2⟩:=q.hr.ob k o hh;refine⟨pl,p1,?_⟩;cases o with
    |lst ty e g rows=>exact Lb p2 (Xe.trans (Ss ((j k).2 _ _ _ _ hh)).symm)
    |_=>exact p2
   obtain⟨z1,z2,z3,z4⟩:=q.hr.zr id o B;exact⟨z1,z2,fun k v e l a b=>z3 k v e l (c a) b,z4⟩
  obtain⟨v,e',h',n',C',y,s',q1,q2,q3,q4,q5,q6,q7⟩:=Bl H he N p hk;obtain⟨u,W,E⟩:=Aa q1;have d:∀{k},aK u k≠none->aK h' k≠none:=fun{k} hk A=>hk ((E k).1.2 A);refine⟨v,e',u,n',C',y,s',W,q2,q3,⟨⟨fun k D G=>?_,fun k k' i v1 F J v2 e2 L a1 a2 a3 a4=>q4.hr.inj k k' i v1 F J v2 e2 L (d a1) (d a2) a3 a4,fun id o B=>?_⟩,q4.dom,q4.wf,q4.lim⟩,q5,⟨q6.sk,q6.n,fun id f A=>q6.keep id f (fun⟨k,v,e,l,b1,b2⟩=>A ⟨k,v,e,l,c b1,b2⟩),fun id f ⟨k,v,e,l,b1,b2⟩=>?_,fun k o x=>?_,q6.zl,fun id f B=>?_⟩,q7⟩;obtain⟨O,b1,U,b2,b3⟩:=(E k).2 D G;obtain⟨pl,p1,p2⟩:=q4.hr.ob k O b1;refine⟨pl,p1,?_⟩;rcases b3 with⟨ty,e,g,rows,rfl,c1,c2,rfl⟩|⟨rfl,_⟩
  exact Lb p2 ((Ss c2).trans (Xf c1).symm);exact p2;obtain⟨z1,z2,z3,z4⟩:=q4.hr.zr id o B;exact⟨z1,z2,fun k v e l a b=>z3 k v e l (d a) b,z4⟩;obtain⟨k,v,e,l,S,T⟩:=q6.own id f ⟨k,v,e,l,d b1,b2⟩;exact⟨k,v,e,l,c S,T⟩;obtain⟨O,M,X⟩:=q6.kd k (fxo o) (by rw[(j k).1,x];rfl);cases hc:aK u k with
  |none=>rw[(E k).1.1 hc]at M;cases M
  |some D=>
   refine⟨D,rfl,fun hb=>?_⟩;obtain⟨V,b1,U,b2,b3⟩:=(E k).2 D hc;rw[M]at b1;cases b1;rw[x]at b2;cases b2;rcases b3 with⟨ty,e,g,rows,rfl,c1,c2,rfl⟩|⟨rfl,hl⟩
   rw[eE,c2]at hb;cases hb;obtain⟨Y,Z⟩:=X hb;refine⟨?_,Z⟩;cases o with
   |lst ty e g rows=>simp[zZ]at hl
   |_=>exact Y
  rcases q6.zn id f B with h1|⟨k,v,e,l,b1,b2⟩
  exact .inl h1;exact .inr ⟨k,v,e,l,c b1,b2⟩
end
end Go.P
