import Derived.Test.YtgboeaaoebjfaaaGreatLaB
/- A text of the proof. -/
set_option linter.all false
namespace Go.P
open Go.Sim (OpK CK Ex RV maxRoom)
inductive PV where
 |v (x:Value)
 |is (esz:Nat) (rows:List (List PV))
 |ip (cells:List PV)
 |im (es:List (PV×PV))
 |ref (k o:Nat)
 |own (k:Nat)
 |el (k i o:Nat)
 |map (k:Nat)
 |fn (f:FuncId) (first cap:List PV)
 |agg (cells:List PV)
 |tup (vs:List PV)
 |undef
 |yld (k:Nat)
 |zs (d e:Nat) (rows:List (List PV))
 |zm (es:List (PV×PV))
 deriving Inhabited
inductive PX where
 |t (i:Nat)
 |c (x:PV)
 deriving Inhabited
inductive POs where
 |nil
 |op (d:Nat) (k:OpK) (xs:List PX) (kill:List Nat) (rest:POs)
 |sto (k:OpK) (xs:List PX) (kill:List Nat) (rest:POs)
 |ifx (d c:Nat) (w:Bool) (body:POs) (x:PX) (kill:List Nat) (rest:POs)
 |ifn (d c:Nat) (w:Bool) (body:POs) (x:PX) (kill:List Nat) (rest:POs)
 |mkfl (d:Nat) (ty:TypeId) (zero:List Value) (xs:List PX) (kill:List Nat) (rest:POs)
 |lax (d:Nat) (es:List (Option Nat)) (rest:POs)
 |own (d:Nat) (ty:TypeId) (e:Nat) (g:Bool) (rest:POs)
 |ownc (d j:Nat) (ty:TypeId) (e:Nat) (g:Bool) (rest:POs)
 |laxc (d j e:Nat) (rest:POs)
 |fz (d:Nat) (j:Option Nat) (rest:POs)
 |laxm (d:Nat) (j:Option Nat) (rest:POs)
 deriving Inhabited
inductive PC where
 |skip
 |reg (ops:POs)
 |regD (dr:Nat) (ops:POs) (before:List Nat)
 |dead (c:Go.Sim.IC)
 |regX (dr:Nat) (ops:POs) (before:List Nat) (ex:List (Nat×Nat×Nat×Nat))
 |seq (a b:PC)
 |cond (c:PX) (a b:PC)
 |condJ (keep:List Nat) (c:PX) (a b:PC)
 |condL (c:PX) (a b:PC)
 |block (id:Nat) (c:PC)
 |loop (keep kx:List Nat) (c:PC)
 |loopU (m:Nat) (keep:List Nat) (c:PC)
 |rangeF (N:Nat) (keep:List Nat) (f:PX) (params:List Nat) (asn body:PC)
 |exit (id:Nat)
 |ret
 deriving Inhabited
abbrev Env:=List (Nat×PV)
inductive PObj where
 |box (cells:List PV)
 |lst (ty:TypeId) (esz:Nat) (g:Bool) (rows:List (List PV))
 |mp (es:List (PV×PV))
 |fl (fs:List PV)
 |lz (ty:TypeId) (esz dp:Nat) (rows:List (List PV))
 |loop (N:Nat) (e:Env) (params:List Nat) (asn body:PC) (busy:Bool) (fin:Option Ex)
abbrev Heap:=List (Nat×PObj)
def isFx (ty:Nat):Bool:=Nat.ble 4294967296 ty
def rty (ty:Nat):Nat:=bif isFx ty then ty-4294967296 else ty
theorem fW1:∃f:{R:Type}->Bool->Option R->Option R->Option R,∀{R:Type} b (x y:Option R),f b x y=if b then x else y:=⟨fun b x y=>if b then x else y,fun _ _ _=>rfl⟩
noncomputable def ifK {R:Type} (b:Bool) (x y:Option R):Option R:=Classical.choose fW1 b x y
theorem jT {R:Type} (b:Bool) (x y:Option R):ifK b x y=if b then x else y:=oG1 fW1 b x y
theorem wM:∃f:{A R:Type}->Option A->(A->Option R)->Option R,∀{A R:Type} (x:Option A) (k:A->Option R),f x k=x.bind k:=⟨fun x k=>x.bind k,fun _ _=>rfl⟩
noncomputable def bC {A R:Type} (x:Option A) (k:A->Option R):Option R:=Classical.choose wM x k
theorem aU {A R:Type} (x:Option A) (k:A->Option R):bC x k=x.bind k:=oG1 wM x k
noncomputable section
variable {R:Type}
def aI1 (x:Value) (K:Value->Option R):Option R:=
 match x with
 |.int k n=>K (.int k n)
 |.bool b=>K (.bool b)
 |.string s=>K (.string s)
 |x=>K x
def fPV (x:PV) (K:PV->Option R):Option R:=
 match x with
 |.v x=>aI1 x fun x=>K (.v x)
 |.is e rows=>K (.is e rows)
 |.ip cs=>K (.ip cs)
 |.im es=>K (.im es)
 |.ref k o=>K (.ref k o)
 |.own k=>K (.own k)
 |.el k i o=>K (.el k i o)
 |.map k=>K (.map k)
 |.fn f a b=>K (.fn f a b)
 |.agg cs=>K (.agg cs)
 |.tup cs=>K (.tup cs)
 |.undef=>K .undef
 |.yld k=>K (.yld k)
 |.zs d e rows=>K (.zs d e rows)
 |.zm es=>K (.zm es)
def fPVs:List PV->(List PV->Option R)->Option R
 |[],K=>K []
 |x::xs,K=>fPV x fun x=>fPVs xs fun xs=>K (x::xs)
def fV (x:PV) (K:PV->Option R):Option R:=
 match x with
 |.v x=>aI1 x fun x=>K (.v x)
 |.agg cs=>fPVs cs fun cs=>K (.agg cs)
 |.tup cs=>fT cs fun cs=>K (.tup cs)
 |.ip cs=>fPVs cs fun cs=>K (.ip cs)
 |.is e rows=>K (.is e rows)
 |.im es=>K (.im es)
 |.ref k o=>K (.ref k o)
 |.own k=>K (.own k)
 |.el k i o=>K (.el k i o)
 |.map k=>K (.map k)
 |.fn f a b=>fPVs a fun a=>fPVs b fun b=>K (.fn f a b)
 |.undef=>K .undef
 |.yld k=>K (.yld k)
 |.zs d e rows=>K (.zs d e rows)
 |.zm es=>K (.zm es)
 where
 fT:List PV->(List PV->Option R)->Option R
 |[],K=>K []
 |x::xs,K=>(match x with
   |.agg cs=>fPVs cs fun cs=>fT xs fun xs=>K (.agg cs::xs)
   |x=>fPV x fun x=>fT xs fun xs=>K (x::xs))
def getK:Env->Nat->(PV->Option R)->Option R
 |[],_,_=>none
 |(j,v)::r,i,K=>bif Nat.beq j i then K v else getK r i K
def mem:Nat->List Nat->Bool
 |_,[]=>false
 |i,j::js=>bif Nat.beq i j then true else mem i js
def delK:Env->List Nat->(Env->Option R)->Option R
 |[],_,K=>K []
 |(j,v)::r,is,K=>bif mem j is then delK r is K else delK r is fun r=>K ((j,v)::r)
def evsK (e:Env):List PX->(List PV->Option R)->Option R
 |[],K=>K []
 |.t i::xs,K=>getK e i fun v=>evsK e xs fun vs=>K (v::vs)
 |.c x::xs,K=>evsK e xs fun vs=>K (x::vs)
def kP:Nat->List PV->(List PV->Option R)->Option R
 |0,_,K=>K []
 |_+1,[],_=>none
 |n+1,a::as,K=>kP n as fun l=>K (a::l)
def dQ:Nat->List PV->(List PV->Option R)->Option R
 |0,l,K=>K l
 |_+1,[],_=>none
 |n+1,_::as,K=>dQ n as K
def setK:List PV->Nat->List PV->(List PV->Option R)->Option R
 |l,0,[],K=>K l
 |[],_,_,_=>none
 |_::as,0,c::cs,K=>setK as 0 cs fun l=>K (c::l)
 |a::as,n+1,cs,K=>setK as n cs fun l=>K (a::l)
def hK:Heap->Nat->(PObj->Option R)->Option R
 |[],_,_=>none
 |(j,v)::r,i,K=>bif Nat.beq j i then K v else hK r i K
def eM:Heap->Nat->PObj->(Heap->Option R)->Option R
 |[],_,_,_=>none
 |(j,v)::r,i,o,K=>bif Nat.beq j i then K ((j,o)::r)else eM r i o fun r=>K ((j,v)::r)
def iR (x:PV) (K:List PV->Option R):Option R:=
 match x with
 |.agg cs=>K cs
 |.tup _=>none
 |.undef=>none
 |x=>K [x]
def kEq (a b:IntKind):Bool:=
 match a,b with
 |.i8,.i8|.i16,.i16|.i32,.i32|.i64,.i64|.u8,.u8|.u16,.u16|.u32,.u32|.u64,.u64=>true
 |_,_=>false
def binK (op:BinOp) (x y:PV) (K:PV->Option R):Option R:=
 match x,y with
 |.v x,.v y=>
  match x,y with
  |.int k a,.int k' b=>
   match op with
   |.shl=>bC (if b<0 then none else some (k.wrap (a*2^min b.toNat k.bits))) fun r=>K (.v (.int k r))
   |.shr=>bC (if b<0 then none else some (a.fdiv (2^min b.toNat k.bits))) fun r=>K (.v (.int k r))
   |_=>bif kEq k k' then match op with
    |.add=>K (.v (.int k (k.wrap (a+b))))
    |.sub=>K (.v (.int k (k.wrap (a-b))))
    |.mul=>K (.v (.int k (k.wrap (a*b))))
    |.quo=>bC (if b=0 then none else some (k.wrap (a.tdiv b))) fun r=>K (.v (.int k r))
    |.rem=>bC (if b=0 then none else some (a.tmod b)) fun r=>K (.v (.int k r))
    |.and=>K (.v (.int k (k.wrap (BitVec.ofInt k.bits a&&&BitVec.ofInt k.bits b).toNat)))
    |.or=>K (.v (.int k (k.wrap (BitVec.ofInt k.bits a|||BitVec.ofInt k.bits b).toNat)))
    |.xor=>K (.v (.int k (k.wrap (BitVec.ofInt k.bits a^^^BitVec.ofInt k.bits b).toNat)))
    |.andNot=>K (.v (.int k (k.wrap (BitVec.ofInt k.bits a&&& ~~~ BitVec.ofInt k.bits b).toNat)))
    |.eql=>K (.v (.bool (a==b)))
    |.neq=>K (.v (.bool (a !=b)))
    |.lss=>K (.v (.bool (decide (a<b))))
    |.leq=>K (.v (.bool (decide (a<=b))))
    |.gtr=>K (.v (.bool (decide (a>b))))
    |.geq=>K (.v (.bool (decide (a>=b))))
    |_=>none
   else none
  |.string a,.string b=>
   match op with
   |.add=>bC (if a.size+b.size<=2^62 then some (a++b)else none) fun r=>K (.v (.string r))
   |.eql=>K (.v (.bool (a.toList==b.toList)))
   |.neq=>K (.v (.bool !(a.toList==b.toList)))
   |.lss=>K (.v (.bool (Op.bytesLess a.toList b.toList)))
   |.leq=>K (.v (.bool (Op.bytesLess a.toList b.toList||a.toList==b.toList)))
   |.gtr=>K (.v (.bool !(Op.bytesLess a.toList b.toList||a.toList==b.toList)))
   |.geq=>K (.v (.bool !(Op.bytesLess a.toList b.toList)))
   |_=>none
  |_,_=>none
 |_,_=>none
def eqCK:List CK->List PV->List PV->(Bool->Option R)->Option R
 |[],[],[],K=>K true
 |k::ks,a::as,b::bs,K=>eqCK ks as bs fun r=>match k,a,b with
  |.i,.v (.int j x),.v (.int j' y)=>bif kEq j j' then K ((x==y)&&r)else none
  |.b,.v (.bool x),.v (.bool y)=>K ((x==y)&&r)
  |.s,.v (.string x),.v (.string y)=>K ((x==y)&&r)
  |_,_,_=>none
 |_,_,_,_=>none
def oZ (rows:List (List PV)) (i:Int):Option (List PV):=if 0<=i then rows[i.toNat]? else none
def uY (n:Nat) (i:Int):Option Nat:=if 0<=i/\i<n then some i.toNat else none
def iE (rows:List (List PV)) (l h:Int):Option (List (List PV)):=
 if 0<=l/\l<=h/\h<=rows.length then some ((rows.drop l.toNat).take (h.toNat-l.toNat))else none
def pA (s:ByteArray) (i:Int):Option Int:=if 0<=i then(s.data.toList[i.toNat]?).map fun b=>(b.toNat:Int)else none
def qL (s:ByteArray) (l h:Int):Option ByteArray:=if 0<=l/\l<=h/\h<=s.size then some (s.extract l.toNat h.toNat)else none
def sO (rows:List (List PV)) (i o:Nat) (cs:List PV):Option (List (List PV)):=
 match rows[i]? with
 |some row=>if o+cs.length<=row.length then some (rows.set i (Sim.setL row o cs))else none
 |none=>none
def sP (rows:List (List PV)) (i o:Nat):Option PV:=(rows[i]?).bind fun row=>row[o]?
def nA (rows:List (List PV)) (i o n:Nat):Option (List PV):=(rows[i]?).bind fun row=>if o+n<=row.length then some ((row.drop o).take n)else none
def nB (cs:List PV) (i:Int) (len esz:Nat):Option PV:=if 0<=i/\i<len then cs[i.toNat*esz]? else none
def jU (cs:List PV) (i:Int) (len esz:Nat):Option (List PV):=if 0<=i/\i<len/\(i.toNat+1)*esz<=cs.length then some ((cs.drop (i.toNat*esz)).take esz)else none
def byteRows (s:ByteArray):List (List PV):=s.data.toList.map fun b=>[.v (.int .u8 b.toNat)]
def appRows (g:Bool) (rows new:List (List PV)):Option (List (List PV)):=
 if rows.length+new.length<=maxRoom/\(g=true->new.length<=1)then some (rows++new)else none
def jV (rows:List (List PV)) (h:Int):Option (List (List PV)):=if 0<=h/\h<=rows.length then some (rows.take h.toNat)else none
def jW (l c:Int) (zero:List PV):Option (List (List PV)):=if 0<=l/\l<=c/\c<=maxRoom then some (List.replicate l.toNat zero)else none
def nC:CK->PV->PV->Option Bool
 |.i,.v (.int k a),.v (.int k' b)=>if k=k' then some (a==b)else none
 |.b,.v (.bool a),.v (.bool b)=>some (a==b)
 |.s,.v (.string a),.v (.string b)=>some (a==b)
 |_,_,_=>none
def gG:List CK->List PV->List PV->Option Bool
 |[],[],[]=>some true
 |k::ks,a::as,b::bs=>match nC k a b with
  |some true=>gG ks as bs
  |some false=>some false
  |none=>none
 |_,_,_=>none
def pB (agg:Bool) (ks:List CK) (a b:PV):Option Bool:=
 if agg then match a,b with
  |.agg as,.agg bs=>if as.length=ks.length/\bs.length=ks.length then gG ks as bs else none
  |_,_=>none
 else gG ks [a] [b]
def qM (agg:Bool) (ks:List CK) (k:PV):List (PV×PV)->Nat->Option (Option (Nat×PV))
 |[],_=>some none
 |(k',x)::r,i=>match pB agg ks k k' with
  |some true=>some (some (i,x))
  |some false=>qM agg ks k r (i+1)
  |none=>none
def pC (agg:Bool) (ks:List CK):PV->Bool
 |.agg as=>agg&&as.length==ks.length
 |.v _=> !agg
 |_=>false
def nD (agg:Bool) (ks:List CK) (zero k:PV) (es:List (PV×PV)):Option PV:=
 if pC agg ks k then(qM agg ks k es 0).map fun r=>match r with|some (_,x)=>x|none=>zero else none
def nE (agg:Bool) (ks:List CK) (zero k:PV) (es:List (PV×PV)):Option (PV×Bool):=
 if pC agg ks k then(qM agg ks k es 0).map fun r=>match r with|some (_,x)=>(x,true)|none=>(zero,false)else none
def sQ (agg:Bool) (ks:List CK) (k x:PV) (es:List (PV×PV)):Option (List (PV×PV)):=
 if pC agg ks k then(qM agg ks k es 0).map fun r=>match r with|some (i,_)=>es.set i (k,x)|none=>es++[(k,x)]else none
def bO:Nat->PV->Bool
 |0,_=>false
 |d+1,x=>match x with
  |.v _|.is _ _|.ip _|.im _=>true
  |.fn _ a b=>a.all (bO d)&&b.all (bO d)
  |.agg cs=>cs.all (bO d)
  |.tup cs=>cs.all (bO d)
  |_=>false
def cW:PV->Bool
 |.v _|.is _ _|.ip _=>true
 |_=>false
def mapP:PV->Bool
 |.agg cs=>cs.all cW
 |x=>cW x
def gndP:Nat->PV->Bool
 |0,_=>false
 |d+1,x=>match x with
  |.v _=>true
  |.agg cs=>cs.all (gndP d)
  |.tup cs=>cs.all (gndP d)
  |_=>false
def mapK (f:PV->(PV->Option R)->Option R):List PV->(List PV->Option R)->Option R
 |[],K=>K []
 |x::xs,K=>f x fun x=>mapK f xs fun xs=>K (x::xs)
def frzK (h:Heap):Nat->PV->(PV->Option R)->Option R
 |0,_,_=>none
 |d+1,x,K=>match x with
  |.own k=>hK h k fun ob=>match ob with
   |.lst _ e _ rows=>K (.is e rows)
   |.lz _ e dp rows=>bif Nat.ble dp 4 then K (.is e rows)else none
   |_=>none
  |.zs dp e rows=>bif Nat.ble dp 5 then K (.is e rows)else none
  |.map k=>hK h k fun ob=>match ob with
   |.mp es=>K (.im es)
   |_=>none
  |.ref k o=>hK h k fun ob=>match ob with
   |.box cs=>dQ o cs fun cs=>mapK (frzK h d) cs fun cs=>K (.ip cs)
   |_=>none
  |.fn f a b=>mapK (frzK h d) a fun a=>mapK (frzK h d) b fun b=>K (.fn f a b)
  |.agg cs=>mapK (frzK h d) cs fun cs=>K (.agg cs)
  |.v x=>K (.v x)
  |.is e rows=>K (.is e rows)
  |.ip cs=>K (.ip cs)
  |.im es=>K (.im es)
  |_=>none
def cE (k:Nat):Nat->PV->(PV->Option R)->Option R
 |0,_,K=>K .undef
 |d+1,x,K=>match x with
  |.own j=>bif Nat.beq j k then K .undef else K (.own j)
  |.el j i o=>bif Nat.beq j k then K .undef else K (.el j i o)
  |.ref j o=>bif Nat.beq j k then K .undef else K (.ref j o)
  |.map j=>bif Nat.beq j k then K .undef else K (.map j)
  |.yld j=>bif Nat.beq j k then K .undef else K (.yld j)
  |.fn f a b=>kills d a fun a=>kills d b fun b=>K (.fn f a b)
  |.agg cs=>kills d cs fun cs=>K (.agg cs)
  |.tup cs=>kills d cs fun cs=>K (.tup cs)
  |x=>K x
 where
 kills (d:Nat):List PV->(List PV->Option R)->Option R
 |[],K=>K []
 |x::xs,K=>cE k d x fun x=>kills d xs fun xs=>K (x::xs)
def lN (k:Nat):Env->(Env->Option R)->Option R
 |[],K=>K []
 |(j,v)::r,K=>cE k 3 v fun v=>lN k r fun r=>K ((j,v)::r)
def gT (k:Nat):Heap->(Heap->Option R)->Option R
 |[],K=>K []
 |(j,o)::r,K=>match o with
  |.box cs=>cE.kills k 2 cs fun cs=>gT k r fun r=>K ((j,.box cs)::r)
  |.lst ty e g rows=>gT k r fun r=>K ((j,.lst ty e g rows)::r)
  |.mp es=>gT k r fun r=>K ((j,.mp es)::r)
  |.lz ty e dp rows=>gT k r fun r=>K ((j,.lz ty e dp rows)::r)
  |.fl fs=>cE.kills k 2 fs fun fs=>gT k r fun r=>K ((j,.fl fs)::r)
  |.loop N e ps a b busy fin=>lN k e fun e=>gT k r fun r=>K ((j,.loop N e ps a b busy fin)::r)
def hF1 (h:Heap) (e:Nat) (x:PV) (K:List (List PV)->Option R):Option R:=
 match x with
 |.is e' rows=>bif Nat.beq e' e then K rows else none
 |.own k=>hK h k fun ob=>match ob with
  |.lst _ e' _ rows=>bif Nat.beq e' e then K rows else none
  |_=>none
 |.v (.slice none 0 0)=>K []
 |_=>none
def kQ (lo hi:Bool) (len:Nat) (a:List PV) (K:Int->Int->Option R):Option R:=
 match lo,hi,a with
 |false,false,[]=>K 0 len
 |true,false,[.v (.int _ l)]=>K l len
 |false,true,[.v (.int _ h)]=>K 0 h
 |true,true,[.v (.int _ l),.v (.int _ h)]=>K l h
 |_,_,_=>none
def aJ1:List PV->List (Nat×Nat)->List PV->(List PV->Option R)->Option R
 |cells,[],[],K=>K cells
 |cells,(off,n)::ps,x::xs,K=>iR x fun cs=>bif Nat.beq cs.length n then setK cells off cs fun cells=>aJ1 cells ps xs K else none
 |_,_,_,_=>none
def nF (e:Nat):List PV->(List (List PV)->Option R)->Option R
 |[],K=>K []
 |x::xs,K=>iR x fun cs=>bif Nat.beq cs.length e&&cs.all cW then nF e xs fun r=>K (cs::r)else none
def hG1:PV->Option (Nat×PV)
 |.zs d e rows=>some (d,.is e rows)
 |x=>bif cW x then some (0,x)else none
def sR:List PV->Option (Nat×List PV)
 |[]=>some (0,[])
 |x::xs=>match hG1 x,sR xs with
  |some (d,y),some (d',ys)=>some (bif Nat.blt d d' then d' else d,y::ys)
  |_,_=>none
def sS (e:Nat):List PV->(Nat->List (List PV)->Option R)->Option R
 |[],K=>K 0 []
 |x::xs,K=>iR x fun cs=>match sR cs with
  |some (d,ys)=>bif Nat.beq ys.length e then sS e xs fun a r=>K (bif Nat.blt d a then a else d) (ys::r)else none
  |none=>none
def hH1:PV->Bool
 |.agg cs=>cs.all cW
 |x=>cW x
def upTo:Nat->List Nat->Bool
 |_,[]=>true
 |i,j::js=>bif Nat.beq i j then upTo (i+1) js else false
def mnK (mx:Bool) (k:IntKind):Int->List PV->(Int->Option R)->Option R
 |a,[],K=>K a
 |a,.v (.int k' b)::r,K=>bif kEq k k' then mnK mx k (bif mx then(if b>a then b else a)else(if b<a then b else a)) r K else none
 |_,_,_=>none
def natK (i:Int) (K:Nat->Option R):Option R:=
 match i with
 |.ofNat i=>K i
 |_=>none
def aK1 (i:Int):Nat->(Nat->Option R)->Option R
 |0,_=>none
 |m+1,K=>ifK (i==(m:Int)) (K m) (aK1 i m K)
def bP (k:OpK) (xs:List PV) (h:Heap) (n:Nat) (K:PV->Heap->Nat->Option R):Option R:=
 match k,xs with
 |.mov,[x]=>K x h n
 |.nilc,[x]=>match x with
  |.ref .. |.ip .. |.el .. |.fn .. |.yld .. =>K x h n
  |_=>none
 |.box _ size,[x]=>iR x fun cs=>bif Nat.beq cs.length size then(bif Nat.beq size 0 then none else K (.ref n 0) ((n,.box cs)::h) (n+1))else none
 |.alloc _ zero,[]=>fPVs (zero.map .v) fun cs=>K (.ref n 0) ((n,.box cs)::h) (n+1)
 |.build zero parts,xs=>fPVs (zero.map .v) fun cs=>aJ1 cs parts xs fun cs=>K (.agg cs) h n
 |.buildSl ty e len zero parts,xs=>bif upTo 0 parts&&(Nat.beq zero.length e&& !(isFx ty))then(bif Nat.beq parts.length len then bif xs.all hH1 then nF e xs fun rows=>bif Nat.beq rows.length len then K (.own n) ((n,.lst ty e false rows)::h) (n+1)else none else sS e xs fun dp rows=>bif Nat.beq rows.length len then K (.own n) ((n,.lz ty e dp rows)::h) (n+1)else none else none)else none
 |.loadS,[p]=>match p with
  |.ref k o=>hK h k fun ob=>match ob with
   |.box cs=>dQ o cs fun cs=>match cs with
    |c::_=>K c h n
    |[]=>none
   |_=>none
  |.ip cs=>match cs with
   |c::_=>K c h n
   |[]=>none
  |.el k i o=>hK h k fun ob=>match ob with
   |.lst _ _ _ rows=>bC (sP rows i o) fun c=>K c h n
   |.fl fs=>bif Nat.beq o 0 then(dQ i fs fun fs=>match fs with
    |f::_=>K f h n
    |[]=>none)else none
   |_=>none
  |_=>none
 |.loadA m,[p]=>match p with
  |.ref k o=>hK h k fun ob=>match ob with
   |.box cs=>dQ o cs fun cs=>kP m cs fun cs=>K (.agg cs) h n
   |_=>none
  |.ip cs=>kP m cs fun cs=>K (.agg cs) h n
  |.el k i o=>hK h k fun ob=>match ob with
   |.lst _ _ _ rows=>bC (nA rows i o m) fun cs=>K (.agg cs) h n
   |_=>none
  |_=>none
 |.store m,[p,x]=>match p with
  |.ref k o=>hK h k fun ob=>match ob with
   |.box cs=>iR x fun ys=>bif Nat.beq ys.length m then setK cs o ys fun cs=>eM h k (.box cs) fun h=>K .undef h n else none
   |_=>none
  |.el k i o=>hK h k fun ob=>match ob with
   |.lst ty e g rows=>iR x fun ys=>bif Nat.beq ys.length m&&ys.all cW then bC (sO rows i o ys) fun rows=>eM h k (.lst ty e g rows) fun h=>K .undef h n else none
   |_=>none
  |_=>none
 |.fad off,[p]=>match p with
  |.ref k o=>K (.ref k (o+off)) h n
  |.ip cs=>dQ off cs fun cs=>K (.ip cs) h n
  |.el k i o=>K (.el k i (o+off)) h n
  |_=>none
 |.iad e,[x,i]=>match i with
  |.v (.int _ i)=>match x with
   |.is e' rows=>bif Nat.beq e' e then bC (oZ rows i) fun row=>K (.ip row) h n else none
   |.own k=>hK h k fun ob=>match ob with
    |.lst _ e' _ rows=>bif Nat.beq e' e then bC (uY rows.length i) fun i=>K (.el k i 0) h n else none
    |.fl fs=>bif Nat.beq e 1 then natK i (fun i=>bif Nat.blt i fs.length then K (.el k i 0) h n else none)else none
    |_=>none
   |_=>none
  |_=>none
 |.iadA len esz,[p,i]=>match i with
  |.v (.int _ i)=>match p with
   |.ref k o=>aK1 i len fun j=>K (.ref k (o+j*esz)) h n
   |_=>none
  |_=>none
 |.fldS off,[x]=>match x with
  |.agg cs=>dQ off cs fun cs=>match cs with
   |c::_=>K c h n
   |[]=>none
  |_=>none
 |.fldA off m,[x]=>match x with
  |.agg cs=>dQ off cs fun cs=>kP m cs fun cs=>K (.agg cs) h n
  |_=>none
 |.idxStr,[x,i]=>match x,i with
  |.v (.string s),.v (.int _ i)=>bC (pA s i) fun b=>K (.v (.int .u8 b)) h n
  |_,_=>none
 |.idxA len e agg,[x,i]=>match x,i with
  |.agg cs,.v (.int _ i)=>bif agg then bC (jU cs i len e) fun cs=>K (.agg cs) h n else bC (nB cs i len e) fun c=>K c h n
  |_,_=>none
 |.bin op,[x,y]=>binK op x y fun v=>K v h n
 |.eqB neg,[x,y]=>match x,y with
  |.v (.bool a),.v (.bool b)=>K (.v (.bool ((a==b)!=neg))) h n
  |_,_=>none
 |.eqA neg ks,[x,y]=>match x,y with
  |.agg as,.agg bs=>eqCK ks as bs fun r=>K (.v (.bool (r !=neg))) h n
  |_,_=>none
 |.eqNil neg kd,[x,y]=>match x,y with
  |.v (.slice none 0 0),.v (.slice none 0 0)=>bif Nat.beq kd 0 then K (.v (.bool (true !=neg))) h n else none
  |.ref ..,.v (.pointer none)=>bif Nat.beq kd 1 then K (.v (.bool (false !=neg))) h n else none
  |.ip ..,.v (.pointer none)=>bif Nat.beq kd 1 then K (.v (.bool (false !=neg))) h n else none
  |.fn ..,.v .nilFunc=>bif Nat.beq kd 3 then K (.v (.bool (false !=neg))) h n else none
  |_,_=>none
 |.un op,[x]=>match op,x with
  |.not,.v (.bool b)=>K (.v (.bool !b)) h n
  |.neg,.v (.int k m)=>K (.v (.int k (k.wrap (0-m)))) h n
  |.xor,.v (.int k m)=>K (.v (.int k (k.wrap (BitVec.ofInt k.bits (if k.signed then -1 else k.max)^^^BitVec.ofInt k.bits m).toNat))) h n
  |_,_=>none
 |.convI k,[x]=>match x with
  |.v (.int _ m)=>K (.v (.int k (k.wrap m))) h n
  |_=>none
 |.convS,[x]=>match x with
  |.v (.string s)=>K (.v (.string s)) h n
  |_=>none
 |.s2b _,[x]=>match x with
  |.v (.string s)=>K (.is 1 (byteRows s)) h n
  |_=>none
 |.mkfn f m,xs=>match f with
  |.func f=>kP m xs fun a=>dQ m xs fun b=>K (.fn f a b) h n
  |_=>none
 |.mkmap,[]=>K (.map n) ((n,.mp [])::h) (n+1)
 |.mksl ty e _ zero,[l,c]=>match l,c with
  |.v (.int _ l),.v (.int _ c)=>bif isFx ty then none else fPVs (zero.map .v) fun z=>bC (jW l c z) fun rows=>K (.own n) ((n,.lst ty e true rows)::h) (n+1)
  |_,_=>none
 |.slc e lo hi mx,x::bs=>bif mx then none else match x with
  |.is e' rows=>bif Nat.beq e' e then kQ lo hi rows.length bs fun l r=>bC (iE rows l r) fun rows=>K (.is e rows) h n else none
  |_=>none
 |.slcStr lo hi,x::bs=>match x with
  |.v (.string s)=>kQ lo hi s.size bs fun l r=>bC (qL s l r) fun s=>K (.v (.string s)) h n
  |_=>none
 |.lookup agg ks zero ok,[m,k]=>
  match zero with
  |.v z=>match m with
   |.im es=>bif bO 2 k then(bif ok then bC (nE agg ks (.v z) k es) fun r=>K (.tup [r.1,.v (.bool r.2)]) h n else bC (nD agg ks (.v z) k es) fun r=>K r h n)else none
   |.zm es=>bif bO 2 k then(bif ok then bC (nE agg ks (.v z) k es) fun r=>K (.tup [r.1,.v (.bool r.2)]) h n else bC (nD agg ks (.v z) k es) fun r=>K r h n)else none
   |.map j=>hK h j fun ob=>match ob with
    |.mp es=>bif bO 2 k then(bif ok then bC (nE agg ks (.v z) k es) fun r=>K (.tup [r.1,.v (.bool r.2)]) h n else bC (nD agg ks (.v z) k es) fun r=>K r h n)else none
    |_=>none
   |_=>none
  |_=>none
 |.mapup agg ks,[m,k,x]=>match m with
  |.map j=>hK h j fun ob=>match ob with
   |.mp es=>bif mapP k&&mapP x then bC (sQ agg ks k x es) fun es=>eM h j (.mp es) fun h=>K .undef h n else none
   |_=>none
  |_=>none
 |.len kd,[x]=>match x with
  |.is _ rows=>bif Nat.beq kd 0 then bC (some rows.length) fun m=>K (.v (.int .i64 m)) h n else none
  |.own k=>bif Nat.beq kd 0 then hK h k fun ob=>match ob with
   |.lst _ _ _ rows=>bC (some rows.length) fun m=>K (.v (.int .i64 m)) h n
   |.lz _ _ _ rows=>bC (some rows.length) fun m=>K (.v (.int .i64 m)) h n
   |.fl fs=>K (.v (.int .i64 fs.length)) h n
   |_=>none else none
  |.zs _ _ rows=>bif Nat.beq kd 0 then bC (some rows.length) fun m=>K (.v (.int .i64 m)) h n else none
  |.v (.slice none 0 0)=>bif Nat.beq kd 0 then K (.v (.int .i64 0)) h n else none
  |.v (.string s)=>bif Nat.beq kd 1 then K (.v (.int .i64 s.size)) h n else none
  |_=>none
 |.mn,x::xs=>match x with
  |.v (.int k a)=>mnK false k a xs fun r=>K (.v (.int k r)) h n
  |_=>none
 |.mx,x::xs=>match x with
  |.v (.int k a)=>mnK true k a xs fun r=>K (.v (.int k r)) h n
  |_=>none
 |.ext i,[x]=>match x with
  |.tup vs=>dQ i vs fun vs=>match vs with
   |v::_=>K v h n
   |[]=>none
  |_=>none
 |_,_=>none
structure NX where
 is:FuncId->Bool
 nw:FuncId->Bool
 run:{R:Type}->FuncId->List PV->Heap->Nat->(PV->Heap->Nat->Option R)->Option R
 yld:{R:Type}->Nat->List PV->Heap->Nat->(PV->Heap->Nat->Option R)->Option R
abbrev Orc:=FuncId->List PV->Option PV
def qN (h:Heap):List PV->(List PV->Option R)->Option R
 |[],K=>K []
 |x::xs,K=>frzK h 5 x fun x=>qN h xs fun xs=>K (x::xs)
def sT (C:Orc) (f:FuncId) (xs:List PV) (h:Heap) (K:PV->Option R):Option R:=
 bif xs.all (bO 4)then bC (C f xs) fun v=>fV v K
 else qN h xs fun xs=>bC (C f xs) fun v=>fV v fun v=>bif gndP 4 v then K v else none
def dS1 (h:Heap) (es dp:Nat) (x:PV) (K:List (List PV)->Option R):Option R:=
 match x with
 |.is e' rows=>bif Nat.beq e' es then K rows else none
 |.own k=>hK h k fun ob=>match ob with
  |.lst _ e' _ rows=>bif Nat.beq e' es then K rows else none
  |.lz _ e' dp' rows=>bif Nat.beq e' es&&Nat.ble dp' dp then K rows else none
  |_=>none
 |.zs d e' rows=>bif Nat.beq e' es&&Nat.ble d (dp+1)then K rows else none
 |.v (.slice none 0 0)=>K []
 |_=>none
def appK (e:Env) (h:Heap) (d ty es:Nat) (kill:List Nat) (s x:PV) (K:Env->Heap->Option R):Option R:=
 match s with
 |.own k=>hK h k fun ob=>match ob with
  |.lst ty' es' g rows=>hF1 h es x fun new=>bif Nat.beq es' es&&(Nat.beq ty' ty&& !(isFx ty'))then bC (appRows g rows new) fun rows=>
    delK e (d::kill) fun e=>lN k e fun e=>gT k h fun h=>eM h k (.lst ty' es' g rows) fun h=>K ((d,.own k)::e) h
   else none
  |.lz ty' es' dp rows=>dS1 h es dp x fun new=>bif Nat.beq es' es&&(Nat.beq ty' ty&& !(isFx ty'))then bC (appRows false rows new) fun rows=>
    delK e (d::kill) fun e=>lN k e fun e=>gT k h fun h=>eM h k (.lz ty' es' dp rows) fun h=>K ((d,.own k)::e) h
   else none
  |_=>none
 |_=>none
def nG (f:PV->List Nat->(List Nat->Option R)->Option R):List PV->List Nat->(List Nat->Option R)->Option R
 |[],a,K=>K a
 |x::xs,a,K=>f x a fun a=>nG f xs a K
def dT1 (f:PV->List Nat->(List Nat->Option R)->Option R):Env->List Nat->(List Nat->Option R)->Option R
 |[],a,K=>K a
 |(_,x)::xs,a,K=>f x a fun a=>dT1 f xs a K
def gI:Nat->PV->List Nat->(List Nat->Option R)->Option R
 |0,_,_,_=>none
 |d+1,x,a,K=>match x with
  |.ref k _=>K (k::a)
  |.own k=>K (k::a)
  |.el k _ _=>K (k::a)
  |.map k=>K (k::a)
  |.yld k=>K (k::a)
  |.fn _ p q=>nG (gI d) p a fun a=>nG (gI d) q a K
  |.agg cs=>nG (gI d) cs a K
  |.tup cs=>nG (gI d) cs a K
  |_=>K a
def gU (h:Heap):Nat->List Nat->List Nat->(List Nat->Option R)->Option R
 |0,_,_,_=>none
 |_+1,[],a,K=>K a
 |n+1,k::b,a,K=>bif mem k a then gU h n b a K else hK h k fun ob=>match ob with
  |.box cs=>nG (gI 4) cs b fun b=>gU h n b (k::a) K
  |.fl cs=>nG (gI 4) cs b fun b=>gU h n b (k::a) K
  |.loop _ e _ _ _ _ _=>dT1 (gI 4) e b fun b=>gU h n b (k::a) K
  |_=>gU h n b (k::a) K
def aL1:Heap->List Nat->(Heap->Heap->Option R)->Option R
 |[],_,K=>K [] []
 |(k,o)::r,ns,K=>aL1 r ns fun a b=>bif mem k ns then K ((k,o)::a) b else K a ((k,o)::b)
def hasK:Heap->Nat->Bool
 |[],_=>false
 |(j,_)::r,k=>bif Nat.beq j k then true else hasK r k
def jD (p:Nat->Bool):Nat->PV->Bool
 |0,_=>false
 |d+1,x=>match x with
  |.ref k _|.own k|.el k _ _|.map k|.yld k=>p k
  |.fn _ a b=>a.all (jD p d)&&b.all (jD p d)
  |.agg cs=>cs.all (jD p d)
  |.tup cs=>cs.all (jD p d)
  |_=>true
def uZ (p:Nat->Bool):PObj->Bool
 |.box cs=>cs.all (jD p 4)
 |.fl cs=>cs.all (jD p 4)
 |.loop _ e _ _ _ _ _=>e.all fun q=>jD p 4 q.2
 |_=>true
def eG (p:Nat->Bool):Heap->Bool
 |[]=>true
 |(_,o)::r=>uZ p o&&eG p r
def jX:Heap->Env->Heap->(Env->Heap->Option R)->Option R
 |[],e,h,K=>K e h
 |(k,o)::r,e,h,K=>match o with
  |.lst ty .. =>bif isFx ty then jX r e h K else lN k e fun e=>gT k h fun h=>jX r e h K
  |.lz .. =>lN k e fun e=>gT k h fun h=>jX r e h K
  |_=>jX r e h K
def vA:Heap->Heap->(Heap->Option R)->Option R
 |[],b,K=>K b
 |(k,o)::r,b,K=>vA r b fun r=>K ((k,o)::r)
def nH:Heap->List Nat
 |[]=>[]
 |(k,_)::r=>k::nH r
def newH (hs:Heap) (n:Nat):Heap->Bool
 |[]=>true
 |(k,_)::r=>bif hasK hs k||Nat.ble n k then newH hs n r else false
def subH (a:Heap):List Nat->Bool
 |[]=>true
 |k::r=>bif hasK a k then subH a r else false
def oldH (hs:Heap):Heap->Bool
 |[]=>true
 |(k,_)::r=>bif hasK hs k then oldH hs r else false
def bnd:Heap->Nat->Nat
 |[],m=>m
 |(k,_)::r,m=>bif Nat.blt k m then bnd r m else bnd r (k+1)
def retK (hs:Heap) (nw:Bool) (n:Nat) (v:PV) (h':Heap) (n':Nat):Option (PV×Heap×Nat):=
 nG (gI 5) [v] (nH hs) fun a=>gU h' 60 a [] fun b=>aL1 h' b fun h2 _=>
  bif subH h2 (nH hs)&&(bif nw then newH hs n h2 else oldH hs h2)&&(jD (hasK h2) 5 v&&eG (hasK h2) h2)then some (v,h2,bif nw then n' else 0)else none
def inK (run:Heap->Nat->(PV->Heap->Nat->Option (PV×Heap×Nat))->Option (PV×Heap×Nat)) (nw:Bool) (xs:List PV) (e:Env) (h:Heap) (n:Nat) (kill:List Nat) (K:PV->Env->Heap->Nat->Option R):Option R:=
 nG (gI 5) xs [] fun a=>gU h 60 a [] fun c=>aL1 h c fun hs b=>
  bif xs.all (jD (hasK hs) 5)&&eG (hasK hs) hs then
   bC (run hs (bif nw then n else bnd hs 0) (retK hs nw (bif nw then n else bnd hs 0))) fun r=>
    fV r.1 fun v=>vA r.2.1 [] fun h2=>delK e kill fun e=>jX h2 e b fun e b=>vA h2 b fun h=>K v e h (bif nw then r.2.2 else n)
  else none
def fxHK:Heap->(Heap->Option R)->Option R
 |[],K=>K []
 |(k,o)::r,K=>match o with
  |.lst ty e g rows=>bif isFx ty then none else fxHK r fun r=>K ((k,.lst (ty+4294967296) e g rows)::r)
  |.lz .. =>none
  |o=>fxHK r fun r=>K ((k,o)::r)
def sU:Heap->Heap->(Heap->Option R)->Option R
 |_,[],K=>K []
 |h,(k,o)::r,K=>hK h k fun a=>match a with
  |.lst .. =>match o with
   |.lst ty e g rows=>bif isFx ty&& !(isFx (ty-4294967296))then sU h r fun r=>K ((k,.lst (ty-4294967296) e g rows)::r)else none
   |_=>none
  |_=>match o with
   |.lst .. =>none
   |.lz .. =>none
   |o=>sU h r fun r=>K ((k,o)::r)
def inKX (fx:Bool) (run:Heap->Nat->(PV->Heap->Nat->Option (PV×Heap×Nat))->Option (PV×Heap×Nat)) (nw:Bool) (xs:List PV) (e:Env) (h:Heap) (n:Nat) (kill:List Nat) (K:PV->Env->Heap->Nat->Option R):Option R:=
 bif fx then fxHK h fun h1=>inK run nw xs e h1 n kill fun v e h2 n=>sU h h2 fun a=>K v e a n
 else inK run nw xs e h n kill K
def aM1 (e:Env) (h:Heap) (d es:Nat) (kill:List Nat) (k:Nat) (hi:Int) (K:Env->Heap->Option R):Option R:=
 hK h k fun ob=>match ob with
 |.lst ty es' _ rows=>bif Nat.beq es' es&& !(isFx ty)then bC (jV rows hi) fun rows=>
   delK e (d::kill) fun e=>lN k e fun e=>gT k h fun h=>eM h k (.lst ty es' true rows) fun h=>K ((d,.own k)::e) h
  else none
 |_=>none
def opK (C:Orc) (X:NX) (k:OpK) (as:List PV) (h:Heap) (n:Nat) (K:PV->Heap->Nat->Option R):Option R:=
 match k,as with
 |.callF f,as=>bif X.is f then none else sT C f as h fun v=>K v h n
 |.callV,.fn f first cap::as=>bif X.is f then none else sT C f (first++as++cap) h fun v=>K v h n
 |k,as=>bP k as h n K
def laxK:List (Option Nat)->List PV->(List PV->Option R)->Option R
 |[],[],K=>K []
 |o::os,x::xs,K=>laxK os xs fun xs=>match o with
  |none=>K (x::xs)
  |some e=>match x with
   |.v (.slice none 0 0)=>K (.is e []::xs)
   |_=>none
 |_,_,_=>none
def kR (ty e:Nat) (g:Bool):PObj:=bif Nat.ble 4294967296 e then .lz ty (e%4294967296) (e/4294967296) []else .lst ty e g []
def dU1:Bool->PObj->Option PV
 |false,.lst ty e _ rows=>bif isFx ty then none else some (.zs 1 e rows)
 |false,.lz _ e dp rows=>some (.zs (dp+1) e rows)
 |true,.mp es=>some (.zm es)
 |_,_=>none
def aN1:Heap->Nat->(Heap->Option R)->Option R
 |[],_,K=>K []
 |(j,o)::r,k,K=>bif Nat.beq j k then aN1 r k K else aN1 r k fun r=>K ((j,o)::r)
def fzK (e:Env) (h:Heap) (d:Nat) (m:Bool) (k:Nat) (j:Option Nat) (K:Env->Heap->Option R):Option R:=
 hK h k fun ob=>match dU1 m ob with
 |some x=>lN k e fun e=>gT k h fun h=>eM h k (.lst 0 0 true []) fun h=>match j with
  |none=>delK e [d] fun e=>K ((d,x)::e) h
  |some j=>getK e d fun v=>match v with
   |.agg cs=>setK cs j [x] fun cs=>delK e [d] fun e=>K ((d,.agg cs)::e) h
   |_=>none
 |none=>none
def sV:PV->Option (Bool×Nat)
 |.own k=>some (false,k)
 |.map k=>some (true,k)
 |_=>none
def aO1:OpK->Bool
 |.store _|.mapup .. =>true
 |_=>false
def isFn:PV->Bool
 |.fn .. =>true
 |_=>false
def dsts:POs->List Nat->List Nat
 |.nil,a=>a
 |.op d _ _ _ r,a=>d::dsts r a
 |.sto _ _ _ r,a=>dsts r a
 |.ifx d _ _ b _ _ r,a=>d::dsts b (dsts r a)
 |.ifn d _ _ b _ _ r,a=>d::dsts b (dsts r a)
 |.mkfl d _ _ _ _ r,a=>d::dsts r a
 |.lax _ _ r,a=>dsts r a
 |.own _ _ _ _ r,a=>dsts r a
 |.ownc _ _ _ _ _ r,a=>dsts r a
 |.laxc _ _ _ r,a=>dsts r a
 |.fz _ _ r,a=>dsts r a
 |.laxm _ _ r,a=>dsts r a
def opsK (C:Orc) (X:NX) (dr:Nat):POs->Env->Heap->Nat->(Env->Heap->Nat->Option R)->Option R
 |.nil,e,h,n,K=>K e h n
 |.op d k xs kill rest,e,h,n,K=>evsK e xs fun as=>
  match k,as with
  |.append ty es _ _ false,[s,x]=>appK e h d ty es kill s x fun e h=>opsK C X dr rest e h n K
  |.slc es false true false,[.own k,.v (.int _ hi)]=>aM1 e h d es kill k hi fun e h=>opsK C X dr rest e h n K
  |.callF f,as=>bif X.is f then inKX (mem 4294967296 kill) (X.run f as) (X.nw f) as e h n (d::kill) fun v e h n=>opsK C X dr rest ((d,v)::e) h n K
   else sT C f as h fun v=>delK e (d::kill) fun e=>opsK C X dr rest ((d,v)::e) h n K
  |.callV,.yld k::as=>bif Nat.beq dr 3 then none else inK (X.yld k as) false (.yld k::as) e h n (d::kill) fun v e h n=>opsK C X dr rest ((d,v)::e) h n K
  |.callV,.fn f first cap::as=>bif X.is f then bif Nat.beq dr 3 then none else inK (X.run f (first++as++cap)) (X.nw f) (first++as++cap) e h n (d::kill) fun v e h n=>opsK C X dr rest ((d,v)::e) h n K
   else sT C f (first++as++cap) h fun v=>delK e (d::kill) fun e=>opsK C X dr rest ((d,v)::e) h n K
  |k,as=>opK C X k as h n fun v h n=>delK e (d::kill) fun e=>opsK C X dr rest ((d,v)::e) h n K
 |.sto k xs kill rest,e,h,n,K=>evsK e xs fun as=>bP k as h n fun _ h n=>delK e kill fun e=>opsK C X dr rest e h n K
 |.ifx d c w body x kill rest,e,h,n,K=>getK e c fun a=>match a with
  |.v (.bool b)=>
   bC (bif w then ifK b (opsB C X body e h n x) (some false)else ifK b (some true) (opsB C X body e h n x))
    fun y=>delK e (d::dsts body kill) fun e=>opsK C X dr rest ((d,.v (.bool y))::e) h n K
  |_=>none
 |.ifn d c w body x kill rest,e,h,n,K=>getK e c fun a=>match a with
  |.v (.bool b)=>
   bif w then ifK b (opsK C X dr body e h n fun e h n=>evsK e [x] fun vs=>match vs with
     |[y]=>delK e (d::dsts body kill) fun e=>opsK C X dr rest ((d,y)::e) h n K
     |_=>none) (delK e (d::dsts body kill) fun e=>opsK C X dr rest ((d,.v (.bool false))::e) h n K)
   else ifK b (delK e (d::dsts body kill) fun e=>opsK C X dr rest ((d,.v (.bool true))::e) h n K) (opsK C X dr body e h n fun e h n=>evsK e [x] fun vs=>match vs with
     |[y]=>delK e (d::dsts body kill) fun e=>opsK C X dr rest ((d,y)::e) h n K
     |_=>none)
  |_=>none
 |.mkfl d ty zero xs kill rest,e,h,n,K=>evsK e xs fun as=>bif Nat.beq zero.length 1&&as.all isFn then delK e (d::kill) fun e=>opsK C X dr rest ((d,.own n)::e) ((n,.fl as)::h) (n+1) K else none
 |.lax d es rest,e,h,n,K=>getK e d fun v=>match v,es with
  |.v (.slice none 0 0),[some s]=>delK e [d] fun e=>opsK C X dr rest ((d,.is s [])::e) h n K
  |.agg cs,es=>laxK es cs fun cs=>delK e [d] fun e=>opsK C X dr rest ((d,.agg cs)::e) h n K
  |_,_=>none
 |.own d ty s g rest,e,h,n,K=>getK e d fun v=>match v with
  |.v (.slice none 0 0)=>delK e [d] fun e=>opsK C X dr rest ((d,.own n)::e) ((n,kR ty s g)::h) (n+1) K
  |_=>none
 |.fz d j rest,e,h,n,K=>getK e d fun v=>match j with
  |none=>match sV v with
   |some (m,k)=>fzK e h d m k none fun e h=>opsK C X dr rest e h n K
   |none=>none
  |some j=>match v with
   |.agg cs=>dQ j cs fun cs'=>match cs' with
    |c::_=>match sV c with
     |some (m,k)=>fzK e h d m k (some j) fun e h=>opsK C X dr rest e h n K
     |none=>none
    |[]=>none
   |_=>none
 |.laxm d j rest,e,h,n,K=>getK e d fun v=>match j,v with
  |none,.v (.map none)=>delK e [d] fun e=>opsK C X dr rest ((d,.zm [])::e) h n K
  |some j,.ref k _=>hK h k fun ob=>match ob with
   |.box cs=>dQ j cs fun cs'=>match cs' with
    |.v (.map none)::_=>setK cs j [.zm []] fun cs=>eM h k (.box cs) fun h=>opsK C X dr rest e h n K
    |_=>none
   |_=>none
  |_,_=>none
 |.laxc d j s rest,e,h,n,K=>getK e d fun v=>match v with
  |.ref k _=>hK h k fun ob=>match ob with
   |.box cs=>dQ j cs fun cs'=>match cs' with
    |.v (.slice none 0 0)::_=>setK cs j [.is s []] fun cs=>eM h k (.box cs) fun h=>opsK C X dr rest e h n K
    |_=>none
   |_=>none
  |_=>none
 |.ownc d j ty s g rest,e,h,n,K=>getK e d fun v=>match v with
  |.ref k _=>hK h k fun ob=>match ob with
   |.box cs=>dQ j cs fun cs'=>match cs' with
    |.v (.slice none 0 0)::_=>setK cs j [.own n] fun cs=>eM h k (.box cs) fun h=>opsK C X dr rest e ((n,kR ty s g)::h) (n+1) K
    |_=>none
   |_=>none
  |_=>none
 where
 opsB (C:Orc) (X:NX):POs->Env->Heap->Nat->PX->Option Bool
 |.nil,e,_,_,x=>evsK e [x] fun vs=>match vs with
  |[.v (.bool b)]=>some b
  |_=>none
 |.op d k xs kill rest,e,h,n,x=>evsK e xs fun as=>
  bif aO1 k then none else opK C X k as h n fun v h n=>delK e (d::kill) fun e=>opsB C X rest ((d,v)::e) h n x
 |.ifx d c w body x' kill rest,e,h,n,x=>getK e c fun a=>match a with
  |.v (.bool b)=>
   bC (bif w then ifK b (opsB C X body e h n x') (some false)else ifK b (some true) (opsB C X body e h n x'))
    fun y=>delK e (d::dsts body kill) fun e=>opsB C X rest ((d,.v (.bool y))::e) h n x
  |_=>none
 |_,_,_,_,_=>none
def lO (n:Nat):Nat->PV->Bool
 |0,_=>false
 |d+1,x=>match x with
  |.ref k _|.own k|.el k _ _|.map k|.yld k=>Nat.blt k n
  |.fn _ a b=>a.all (lO n d)&&b.all (lO n d)
  |.agg cs=>cs.all (lO n d)
  |.tup cs=>cs.all (lO n d)
  |_=>true
def dV1:Env->Nat->(PV->Option R)->Option R->Option R
 |[],_,_,D=>D
 |(j,v)::r,i,K,D=>bif Nat.beq j i then K v else dV1 r i K D
def aP1:Env->List Nat->Nat->(Env->Option R)->Option R
 |_,[],_,K=>K []
 |e,i::is,n,K=>dV1 e i (fun v=>bif lO n 4 v then aP1 e is n fun r=>K ((i,v)::r)else none) (aP1 e is n K)
def lW (n:Nat):PObj->Bool
 |.box cs=>cs.all (lO n 4)
 |.fl cs=>cs.all (lO n 4)
 |.loop _ e _ _ _ _ _=>e.all fun q=>lO n 4 q.2
 |_=>true
def dW1:Heap->Heap->Nat->(Heap->Option R)->Option R
 |[],_,_,K=>K []
 |(k,_)::r,h,n,K=>hK h k fun o=>bif lW n o then dW1 r h n fun r=>K ((k,o)::r)else none
def aP {S E:Type} (body:S->Option (S⊕E)):Nat->S->Option E
 |0,_=>none
 |n+1,s=>(body s).bind fun r=>match r with
  |.inl s=>aP body n s
  |.inr e=>some e
def B64:Nat:=18446744073709551616
structure PSt where
 e:Env
 h:Heap
def sW (body:Env->Heap->(Ex->Env->Heap->Option R)->Option R) (a:Env->Heap->(PSt->Option R)->Option R):Nat->PSt->(Ex->PSt->Option R)->Option R
 |0,_,_=>none
 |m+1,s,K=>body s.e s.h fun x e h=>a e h fun s=>match x with
  |.normal=>sW body a m s K
  |.exit i=>K (.exit i) s
  |.ret=>K .ret s
def dX1:Env->List Nat->(Env->Option R)->Option R
 |_,[],K=>K []
 |e,i::is,K=>getK e i fun v=>dX1 e is fun r=>K ((i,v)::r)
def gV (keep:List Nat) (h0:Heap) (n0:Nat) (e:Env) (h:Heap) (K:PSt->Option R):Option R:=
 aP1 e keep n0 fun e=>dW1 h0 h n0 fun h=>K ⟨e,h⟩
def lk (x:Ex) (a b:List Nat):List Nat:=match x with
 |.normal=>a
 |_=>b
abbrev runR (X:NX) (f:FuncId) (xs:List PV) (hs:Heap) (m:Nat) (nw:Bool):Option (PV×Heap×Nat):=X.run f xs hs m (retK hs nw m)
abbrev yldR (X:NX) (k:Nat) (xs:List PV) (hs:Heap) (m:Nat):Option (PV×Heap×Nat):=X.yld k xs hs m (retK hs false m)
def eget:Env->Nat->Option PV
 |[],_=>none
 |(j,v)::r,i=>if j=i then some v else eget r i
def hget:Heap->Nat->Option PObj
 |[],_=>none
 |(j,v)::r,i=>if j=i then some v else hget r i
def qO:PV->Option Nat
 |.ref k _|.own k|.el k _ _|.map k=>some k
 |_=>none
def free:PV->Bool
 |.ip _|.v _|.is _ _|.im _=>true
 |_=>false
def aQ1 (h:Heap) (x y:PV):Bool:=free x||free y||match qO x,qO y with
 |some k,some k'=> !Nat.beq k k'&&(hget h k).isSome&&(hget h k').isSome
 |_,_=>false
def exB (e:Env) (h:Heap) (ex:List (Nat×Nat×Nat×Nat)):Bool:=ex.all fun p=>match eget e p.2.2.1,eget e p.2.2.2 with
 |some x,some y=>aQ1 h x y
 |_,_=>false
def dF (C:Orc) (X:NX) {R:Type}:PC->Env->Heap->Nat->(Ex->Env->Heap->Nat->Option R)->Option R
 |.skip,e,h,n,K=>K .normal e h n
 |.reg ops,e,h,n,K=>opsK C X 0 ops e h n (K .normal)
 |.regD dr ops _,e,h,n,K=>opsK C X dr ops e h n (K .normal)
 |.dead _,_,_,_,_=>none
 |.regX dr ops _ ex,e,h,n,K=>opsK C X dr ops e h n fun e h n=>bif exB e h ex then K .normal e h n else none
 |.seq a b,e,h,n,K=>dF C X a e h n (fun x e h n=>match x with|.normal=>dF C X b e h n K|.exit i=>K (.exit i) e h n|.ret=>K .ret e h n)
 |.cond c a b,e,h,n,K=>evsK e [c] fun vs=>match vs with
  |[.v (.bool t)]=>ifK t (dF C X a e h n K) (dF C X b e h n K)
  |_=>none
 |.condJ keep c a b,e,h,n,K=>evsK e [c] fun vs=>match vs with
  |[.v (.bool t)]=>bC (ifK t (dF C X a e h n fun x e' h' _=>gV keep h n e' h' fun s=>some (x,s)) (dF C X b e h n fun x e' h' _=>gV keep h n e' h' fun s=>some (x,s)))
    fun r=>K r.1 r.2.e r.2.h n
  |_=>none
 |.block id c,e,h,n,K=>dF C X c e h n (fun x e h n=>match x with|.exit i=>bif Nat.beq i id then K .normal e h n else K (.exit i) e h n|.normal=>K .normal e h n|.ret=>K .ret e h n)
 |.loop keep kx c,e,h,n,K=>gV keep h n e h fun s0=>
   bC (aP (fun s:PSt=>dF C X c s.e s.h n fun x e' h' _=>gV (lk x keep kx) h n e' h' fun s'=>some (match x with|.normal=>.inl s'|x=>.inr (x,s'))) B64 s0)
    fun r=>K r.1 r.2.e r.2.h n
 |.condL c a b,e,h,n,K=>evsK e [c] fun vs=>match vs with
  |[.v (.bool t)]=>match t with
   |true=>dF C X a e h n K
   |false=>dF C X b e h n K
  |_=>none
 |.loopU m keep c,e,h,n,K=>gV keep h n e h fun s0=>
   sW (fun e h K=>dF C X c e h n fun x e h _=>K x e h) (fun e' h' K=>gV keep h n e' h' K) m s0 fun x s=>K x s.e s.h n
 |.rangeF N keep f ps a b,e,h,n,K=>evsK e [f] fun vs=>match vs with
  |[.fn g first cap]=>bif X.is g then dX1 e keep fun d=>
    inK (X.run g (first++[.yld n]++cap)) false (first++[.yld n]++cap) e ((n,.loop N d ps a b false none)::h) (n+1) [] fun _ e h m=>
     hK h n fun ob=>match ob with
     |.loop _ _ _ _ _ false fin=>aN1 h n fun h=>match fin with
      |none=>K .normal e h m
      |some (.exit i)=>K (.exit i) e h m
      |some .ret=>K .ret e h m
      |some .normal=>none
     |_=>none
   else none
  |_=>none
 |.exit id,e,h,n,K=>K (.exit id) e h n
 |.ret,e,h,n,K=>K .ret e h n
end
end Go.P
namespace Go.P
open Go.Sim (AV AO Hp Ent upd St IC IX Ex OpK CK)
def lC1:PV->AV
 |.v x=>.v x
 |_=>.tup []
def eV:PV->AV
 |.v x=>.v x
 |.is _ []=>.v (.slice none 0 0)
 |.fn f [] []=>.fn (.func f) [] []
 |.agg cs=>.agg (cs.map lC1)
 |_=>.tup []
def isV:PV->Bool
 |.v _=>true
 |_=>false
def okC:PV->Bool
 |.v _=>true
 |.is _ []=>true
 |.fn _ [] []=>true
 |.agg cs=>cs.all isV
 |_=>false
def eX:PX->IX
 |.t i=>.t i
 |.c x=>.c (eV x)
def erO (g:Option (Nat×Bool)):POs->List Sim.Op1
 |.nil=>[]
 |.op d k xs _ r=>⟨some d,k,xs.map eX,g⟩::erO g r
 |.sto k xs _ r=>⟨none,k,xs.map eX,g⟩::erO g r
 |.ifx d c w b x _ r=>erO (some (c,w)) b++⟨some d,.pick,if w then[.t c,eX x,.c (.v (.bool false))]else[.t c,.c (.v (.bool true)),eX x],g⟩::erO g r
 |.ifn d c w b x _ r=>erO (some (c,w)) b++⟨some d,.pick,if w then[.t c,eX x,.c (.v (.bool false))]else[.t c,.c (.v (.bool true)),eX x],g⟩::erO g r
 |.mkfl d ty zero xs _ r=>⟨some d,.buildSl ty 1 xs.length zero (List.range xs.length),xs.map eX,g⟩::erO g r
 |.lax _ _ r=>erO g r
 |.own _ _ _ _ r=>erO g r
 |.ownc _ _ _ _ _ r=>erO g r
 |.laxc _ _ _ r=>erO g r
 |.fz _ _ r=>erO g r
 |.laxm _ _ r=>erO g r
def sX:POs->Bool
 |.nil=>true
 |.lax _ _ r=>sX r
 |.own _ _ _ _ r=>sX r
 |.ownc _ _ _ _ _ r=>sX r
 |.laxc _ _ _ r=>sX r
 |.fz _ _ r=>sX r
 |.laxm _ _ r=>sX r
 |_=>false
def lD1:POs->Bool
 |.nil=>true
 |_=>false
def erC:PC->IC
 |.skip=>.skip
 |.reg ops=>.reg (erO none ops)
 |.regD _ ops before=>.regD (erO none ops) before
 |.dead c=>c
 |.regX _ ops before _=>.regD (erO none ops) before
 |.seq a b=>match a with
  |.reg ops=>if sX ops&& !lD1 ops then erC b else .seq (.reg (erO none ops)) (erC b)
  |a=>.seq (erC a) (erC b)
 |.cond c a b=>.cond (eX c) (erC a) (erC b)
 |.condJ _ c a b=>.cond (eX c) (erC a) (erC b)
 |.condL c a b=>.cond (eX c) (erC a) (erC b)
 |.block id c=>.block id (erC c)
 |.loop _ _ c=>.loop (erC c)
 |.loopU _ _ c=>.loop (erC c)
 |.rangeF _ _ f ps a b=>.rangeF (eX f) ps (erC a) (erC b)
 |.exit id=>.exit id
 |.ret=>.ret
end Go.P
namespace Go.P
open Go.Sim (AV AO Hp Ent upd St IC IX Ex OpK CK Wf)
inductive RC:Bool->PV->AV->Prop
 |v {p:Bool} (x:Value):RC p (.v x) (.v x)
 |is {p:Bool} {e:Nat} {rows:List (List PV)} {rows':List (List AV)} (hl:rows.length=rows'.length)
   (hr:∀(i:Nat) (r:List PV) (r':List AV),rows[i]? =some r->rows'[i]? =some r'->r.length=r'.length)
   (hc:∀(i:Nat) (r:List PV) (r':List AV) (j:Nat) (x:PV) (y:AV),rows[i]? =some r->rows'[i]? =some r'->r[j]? =some x->r'[j]? =some y->RC true x y):RC p (.is e rows) (.is e rows')
 |isn {p:Bool} {e:Nat}:RC p (.is e []) (.v (.slice none 0 0))
 |ip {p:Bool} {cs:List PV} {cs':List AV} (hl:cs.length=cs'.length) (hc:∀(j:Nat) (x:PV) (y:AV),cs[j]? =some x->cs'[j]? =some y->RC false x y):RC p (.ip cs) (.ip cs')
 |im {es:List (PV×PV)} {es':List (AV×AV)} (hl:es.length=es'.length)
   (hk:∀(j:Nat) (x:PV×PV) (y:AV×AV),es[j]? =some x->es'[j]? =some y->RC false x.1 y.1)
   (hv:∀(j:Nat) (x:PV×PV) (y:AV×AV),es[j]? =some x->es'[j]? =some y->RC false x.2 y.2):RC false (.im es) (.im es')
 |fn {f:FuncId} {a b:List PV} {a' b':List AV} (h1:a.length=a'.length) (h2:b.length=b'.length)
   (v1:∀(j:Nat) (x:PV) (y:AV),a[j]? =some x->a'[j]? =some y->RC false x y) (v2:∀(j:Nat) (x:PV) (y:AV),b[j]? =some x->b'[j]? =some y->RC false x y):RC false (.fn f a b) (.fn (.func f) a' b')
 |agg {cs:List PV} {cs':List AV} (hl:cs.length=cs'.length) (hc:∀(j:Nat) (x:PV) (y:AV),cs[j]? =some x->cs'[j]? =some y->RC false x y):RC false (.agg cs) (.agg cs')
 |tup {cs:List PV} {cs':List AV} (hl:cs.length=cs'.length) (hc:∀(j:Nat) (x:PV) (y:AV),cs[j]? =some x->cs'[j]? =some y->RC false x y):RC false (.tup cs) (.tup cs')
theorem RC.weak {p:Bool} {x:PV} {y:AV} (h:RC p x y):RC false x y:=by
 cases h with
 |v x=>exact .v x
 |is hl hr hc=>exact .is hl hr hc
 |isn=>exact .isn
 |ip hl hc=>exact .ip hl hc
 |im a b c=>exact .im a b c
 |fn a b c d=>exact .fn a b c d
 |agg a b=>exact .agg a b
 |tup a b=>exact .tup a b
theorem RC.plain {x:PV} {y:AV} (h:RC false x y) (hp:cW x=true):RC true x y:=by
 cases h with
 |v x=>exact .v x
 |is hl hr hc=>exact .is hl hr hc
 |isn=>exact .isn
 |ip hl hc=>exact .ip hl hc
 |_=>simp[cW]at hp
def LR (R:PV->AV->Prop) (xs:List PV) (ys:List AV):Prop:=xs.length=ys.length/\∀(j:Nat) (x:PV) (y:AV),xs[j]? =some x->ys[j]? =some y->R x y
section
variable {R:PV->AV->Prop}
theorem LR.nil:LR R [] []:=⟨rfl,fun j x y h=>by simp at h⟩
theorem LR.cons {x:PV} {y:AV} {xs:List PV} {ys:List AV} (h:R x y) (d:LR R xs ys):LR R (x::xs) (y::ys):=
 ⟨by simp[d.1],fun j a b c hb=>by
  cases j with
  |zero=>simp at c hb;subst c hb;exact h
  |succ j=>simp at c hb;exact d.2 j a b c hb⟩
theorem LR.head {x:PV} {y:AV} {xs:List PV} {ys:List AV} (h:LR R (x::xs) (y::ys)):R x y:=h.2 0 x y rfl rfl
theorem LR.tail {x:PV} {y:AV} {xs:List PV} {ys:List AV} (h:LR R (x::xs) (y::ys)):LR R xs ys:=
 ⟨by simpa using h.1,fun j a b c hb=>h.2 (j+1) a b (by simpa using c) (by simpa using hb)⟩
theorem LR.inv_nil {ys:List AV} (h:LR R [] ys):ys=[]:=by
 have:=h.1
 cases ys with
 |nil=>rfl
 |cons a as=>simp at this
theorem LR.inv_cons {x:PV} {xs:List PV} {ys:List AV} (h:LR R (x::xs) ys):∃y b,ys=y::b/\R x y/\LR R xs b:=by
 cases ys with
 |nil=>have:=h.1;simp at this
 |cons a as=>exact⟨a,as,rfl,h.head,h.tail⟩
theorem LR.append {xs xs':List PV} {ys b:List AV} (h:LR R xs ys) (h':LR R xs' b):LR R (xs++xs') (ys++b):=by
 induction xs generalizing ys with
 |nil=>rw[h.inv_nil];exact h'
 |cons a as ih=>
  obtain⟨y,c,rfl,h1,h2⟩:=h.inv_cons
  exact .cons h1 (ih h2)
theorem LR.take {xs:List PV} {ys:List AV} (h:LR R xs ys) (n:Nat):LR R (xs.take n) (ys.take n):=
 ⟨by simp[h.1],fun j x y a hy=>by
  rw[mS1]at a hy
  split at a
  .rename_i b
   rw[mA1 b]at hy
   exact h.2 j x y a hy
  .cases a⟩
theorem LR.drop {xs:List PV} {ys:List AV} (h:LR R xs ys) (n:Nat):LR R (xs.drop n) (ys.drop n):=
 ⟨by simp[h.1],fun j x y a hy=>by
  rw[nD1]at a hy
  exact h.2 _ x y a hy⟩
theorem LR.get {xs:List PV} {ys:List AV} (h:LR R xs ys) {j:Nat} {x:PV} (b:xs[j]? =some x):∃y,ys[j]? =some y/\R x y:=by
 have a:j<ys.length:=by rw[<-h.1];exact(lX1.1 b).1
 exact⟨ys[j],by simp[a],h.2 j x _ b (by simp[a])⟩
theorem LR.mono {R':PV->AV->Prop} {xs:List PV} {ys:List AV} (h:LR R xs ys) (c:∀x y,R x y->R' x y):LR R' xs ys:=⟨h.1,fun j x y a b=>c x y (h.2 j x y a b)⟩
theorem LR.set {xs:List PV} {ys:List AV} (h:LR R xs ys) {x:PV} {y:AV} (d:R x y) (n:Nat):LR R (xs.set n x) (ys.set n y):=
 ⟨by simp[h.1],fun j a b c hb=>by
  rw[mN1]at c hb
  split at c
  .rename_i e;subst e
   rw[mA1 rfl]at hb
   split at c
   .split at hb
    .cases c;cases hb;exact d
    .cases hb
   .cases c
  .rename_i e
   rw[lY1 e]at hb
   exact h.2 j a b c hb⟩
theorem LR.setL {xs xs':List PV} {ys b:List AV} (h:LR R xs ys) (h':LR R xs' b) (o:Nat):LR R (Sim.setL xs o xs') (Sim.setL ys o b):=by
 induction xs' generalizing xs ys b o with
 |nil=>rw[h'.inv_nil];exact h
 |cons a as ih=>
  obtain⟨y,c,rfl,h1,h2⟩:=h'.inv_cons
  exact ih (h.set h1 o) h2 (o+1)
end
def RR (rows:List (List PV)) (rows':List (List AV)):Prop:=
 rows.length=rows'.length/\∀(i:Nat) (r:List PV) (r':List AV),rows[i]? =some r->rows'[i]? =some r'->LR (RC true) r r'
theorem RR.is {p:Bool} {e:Nat} {rows:List (List PV)} {rows':List (List AV)} (h:RR rows rows'):RC p (.is e rows) (.is e rows'):=
 .is h.1 (fun i r r' a b=>(h.2 i r r' a b).1) (fun i r r' j x y a b c d=>(h.2 i r r' a b).2 j x y c d)
theorem RR.of_is {rows:List (List PV)} {rows':List (List AV)} (hl:rows.length=rows'.length)
   (hr:∀(i:Nat) (r:List PV) (r':List AV),rows[i]? =some r->rows'[i]? =some r'->r.length=r'.length)
   (hc:∀(i:Nat) (r:List PV) (r':List AV) (j:Nat) (x:PV) (y:AV),rows[i]? =some r->rows'[i]? =some r'->r[j]? =some x->r'[j]? =some y->RC true x y):RR rows rows':=
 ⟨hl,fun i r r' a b=>⟨hr i r r' a b,fun j x y c d=>hc i r r' j x y a b c d⟩⟩
theorem RR.nil:RR [] []:=⟨rfl,fun i r r' h=>by simp at h⟩
theorem RR.cons {r:List PV} {r':List AV} {rows:List (List PV)} {rows':List (List AV)} (h:LR (RC true) r r') (d:RR rows rows'):RR (r::rows) (r'::rows'):=
 ⟨by simp[d.1],fun j a b c hb=>by
  cases j with
  |zero=>simp at c hb;subst c hb;exact h
  |succ j=>simp at c hb;exact d.2 j a b c hb⟩
theorem RR.get {rows:List (List PV)} {rows':List (List AV)} (h:RR rows rows') {i:Nat} {r:List PV} (hr:rows[i]? =some r):∃r',rows'[i]? =some r'/\LR (RC true) r r':=by
 have a:i<rows'.length:=by rw[<-h.1];exact(lX1.1 hr).1
 exact⟨rows'[i],by simp[a],h.2 i r _ hr (by simp[a])⟩
theorem RR.append {a b:List (List PV)} {a' b':List (List AV)} (h:RR a a') (k:RR b b'):RR (a++b) (a'++b'):=
 ⟨by simp[h.1,k.1],fun i r r' h1 h2=>by
  rw[nK1]at h1 h2
  rw[<-h.1]at h2
  split at h1
  .rename_i hi;rw[mA1 hi]at h2;exact h.2 i r r' h1 h2
  .rename_i hi;rw[lY1 hi]at h2;exact k.2 _ r r' h1 h2⟩
theorem RR.take {a:List (List PV)} {a':List (List AV)} (h:RR a a') (n:Nat):RR (a.take n) (a'.take n):=
 ⟨by simp[h.1],fun j x y b hy=>by
  rw[mS1]at b hy
  split at b
  .rename_i c;rw[mA1 c]at hy;exact h.2 j x y b hy
  .cases b⟩
theorem RR.drop {a:List (List PV)} {a':List (List AV)} (h:RR a a') (n:Nat):RR (a.drop n) (a'.drop n):=
 ⟨by simp[h.1],fun j x y b hy=>by
  rw[nD1]at b hy
  exact h.2 _ x y b hy⟩
theorem RR.set {a:List (List PV)} {a':List (List AV)} (h:RR a a') {x:List PV} {y:List AV} (c:LR (RC true) x y) (n:Nat):RR (a.set n x) (a'.set n y):=
 ⟨by simp[h.1],fun j p q b hb=>by
  rw[mN1]at b hb
  split at b
  .rename_i e;subst e
   rw[mA1 rfl]at hb
   split at b
   .split at hb
    .cases b;cases hb;exact c
    .cases hb
   .cases b
  .rename_i e
   rw[lY1 e]at hb
   exact h.2 j p q b hb⟩
theorem RR.replicate {r:List PV} {r':List AV} (h:LR (RC true) r r') (n:Nat):RR (List.replicate n r) (List.replicate n r'):=
 ⟨by simp,fun i x y a hy=>by
  simp only[oQ1]at a hy
  split at a
  .rename_i hi;rw[mA1 hi]at hy;cases a;cases hy;exact h
  .cases a⟩
def ER (es:List (PV×PV)) (es':List (AV×AV)):Prop:=
 es.length=es'.length/\∀(j:Nat) (x:PV×PV) (y:AV×AV),es[j]? =some x->es'[j]? =some y->RC false x.1 y.1/\RC false x.2 y.2
theorem ER.im {es:List (PV×PV)} {es':List (AV×AV)} (h:ER es es'):RC false (.im es) (.im es'):=.im h.1 (fun j x y a b=>(h.2 j x y a b).1) (fun j x y a b=>(h.2 j x y a b).2)
def RK (x:PV) (y:AV):Prop:=RC true x y\/∃cs cs',x=.agg cs/\y=.agg cs'/\LR (RC true) cs cs'
theorem RK.rc {x:PV} {y:AV} (h:RK x y):RC false x y:=by
 rcases h with h|⟨cs,cs',rfl,rfl,h⟩
 .exact h.weak
 .exact .agg h.1 fun j x y a b=>(h.2 j x y a b).weak
def EM (es:List (PV×PV)) (es':List (AV×AV)):Prop:=
 es.length=es'.length/\∀(j:Nat) (x:PV×PV) (y:AV×AV),es[j]? =some x->es'[j]? =some y->RK x.1 y.1/\RK x.2 y.2
theorem EM.er {es:List (PV×PV)} {es':List (AV×AV)} (h:EM es es'):ER es es':=⟨h.1,fun j x y a b=>⟨(h.2 j x y a b).1.rc,(h.2 j x y a b).2.rc⟩⟩
inductive Pl where
 |nil
 |atp (id ver e len:Nat)
structure Cx where
 f:Nat->Option Pl
 z:Nat->Option AO
instance:CoeFun Cx fun _=>Nat->Option Pl:=⟨Cx.f⟩
def Cx.le (C C':Cx):Prop:=(∀k pl,C k=some pl->C' k=some pl)/\∀id o,C.z id=some o->C'.z id=some o
theorem Cx.le.refl (C:Cx):C.le C:=⟨fun _ _ h=>h,fun _ _ h=>h⟩
theorem Cx.le.trans {A B C:Cx} (h:A.le B) (k:B.le C):A.le C:=⟨fun a b c=>k.1 a b (h.1 a b c),fun a b c=>k.2 a b (h.2 a b c)⟩
def RZ (z:Nat->Option AO):Nat->PV->AV->Prop
 |0,x,y=>RC true x y
 |d+1,x,y=>RC true x y\/∃e rows id ver ty els,x=.is e rows/\y=.sl e id ver 0 rows.length none/\z id=some (.arr false ty e ver els)/\rows.length<=els.length/\
   ∀(i:Nat) (r:List PV) (r':List AV),rows[i]? =some r->els[i]? =some r'->LR (RZ z d) r r'
theorem RZ.of {z:Nat->Option AO} {d:Nat} {x:PV} {y:AV} (h:RC true x y):RZ z d x y:=by
 cases d with
 |zero=>exact h
 |succ d=>exact .inl h
theorem RZ.up1 {z:Nat->Option AO}:∀{d:Nat} {x:PV} {y:AV},RZ z d x y->RZ z (d+1) x y
 |0,_,_,h=>.inl h
 |d+1,x,y,h=>by
  rcases h with h|⟨e,rows,id,ver,ty,els,h1,h2,h3,h4,h5⟩
  .exact .inl h
  .exact .inr ⟨e,rows,id,ver,ty,els,h1,h2,h3,h4,fun i r r' a b=>(h5 i r r' a b).mono fun x y h=>RZ.up1 h⟩
theorem RZ.up {z:Nat->Option AO} {d a:Nat} (hd:d<=a) {x:PV} {y:AV} (h:RZ z d x y):RZ z a x y:=by
 induction hd with
 |refl=>exact h
 |step _ ih=>exact ih.up1
theorem RZ.mono {z f:Nat->Option AO} (c:∀id o,z id=some o->f id=some o):∀{d:Nat} {x:PV} {y:AV},RZ z d x y->RZ f d x y
 |0,_,_,h=>h
 |d+1,x,y,h=>by
  rcases h with h|⟨e,rows,id,ver,ty,els,h1,h2,h3,h4,h5⟩
  .exact .inl h
  .exact .inr ⟨e,rows,id,ver,ty,els,h1,h2,c _ _ h3,h4,fun i r r' a b=>(h5 i r r' a b).mono fun x y h=>RZ.mono c h⟩
def RRz (z:Nat->Option AO) (d:Nat) (rows:List (List PV)) (rows':List (List AV)):Prop:=
 rows.length=rows'.length/\∀(i:Nat) (r:List PV) (r':List AV),rows[i]? =some r->rows'[i]? =some r'->LR (RZ z d) r r'
theorem RR.z {z:Nat->Option AO} {d:Nat} {rows:List (List PV)} {rows':List (List AV)} (h:RR rows rows'):RRz z d rows rows':=⟨h.1,fun i r r' a b=>(h.2 i r r' a b).mono fun _ _ h=>RZ.of h⟩
theorem RRz.mono {z c:Nat->Option AO} (e:∀id o,z id=some o->c id=some o) {d:Nat} {rows:List (List PV)} {rows':List (List AV)} (h:RRz z d rows rows'):RRz c d rows rows':=⟨h.1,fun i r r' a b=>(h.2 i r r' a b).mono fun _ _ h=>RZ.mono e h⟩
theorem RRz.up {z:Nat->Option AO} {d c:Nat} (hd:d<=c) {rows:List (List PV)} {rows':List (List AV)} (h:RRz z d rows rows'):RRz z c rows rows':=⟨h.1,fun i r r' a b=>(h.2 i r r' a b).mono fun _ _ h=>RZ.up hd h⟩
theorem RRz.nil {z:Nat->Option AO} {d:Nat}:RRz z d [] []:=⟨rfl,fun i r r' h=>by simp at h⟩
theorem RRz.append {z:Nat->Option AO} {d:Nat} {a b:List (List PV)} {a' b':List (List AV)} (h:RRz z d a a') (k:RRz z d b b'):RRz z d (a++b) (a'++b'):=
 ⟨by simp[h.1,k.1],fun i r r' h1 h2=>by
  rw[nK1]at h1 h2
  rw[<-h.1]at h2
  split at h1
  .rename_i hi;rw[mA1 hi]at h2;exact h.2 i r r' h1 h2
  .rename_i hi;rw[lY1 hi]at h2;exact k.2 _ r r' h1 h2⟩
inductive RV (C:Cx):PV->AV->Prop
 |cl {x:PV} {y:AV} (h:RC false x y):RV C x y
 |undef {y:AV}:RV C .undef y
 |ref {k o id ver e len:Nat} (h:C k=some (.atp id ver e len)):RV C (.ref k o) (.ptr id ver 0 o)
 |own {k id ver e len:Nat} (h:C k=some (.atp id ver e len)):RV C (.own k) (.sl e id ver 0 len none)
 |ownn {k:Nat} {y:AV} (h:C k=some .nil) (hy:y=.v (.slice none 0 0)):RV C (.own k) y
 |el {k i o id ver e len:Nat} (h:C k=some (.atp id ver e len)):RV C (.el k i o) (.ptr id ver i o)
 |map {k id ver e len:Nat} (h:C k=some (.atp id ver e len)):RV C (.map k) (.map id)
 |fn {f:FuncId} {a b:List PV} {a' b':List AV} (h1:a.length=a'.length) (h2:b.length=b'.length)
   (v1:∀(j:Nat) (x:PV) (y:AV),a[j]? =some x->a'[j]? =some y->RV C x y) (v2:∀(j:Nat) (x:PV) (y:AV),b[j]? =some x->b'[j]? =some y->RV C x y):RV C (.fn f a b) (.fn (.func f) a' b')
 |yld {k id ver e len:Nat} (h:C k=some (.atp id ver e len)):RV C (.yld k) (.fn (.yield id) [] [])
 |agg {cs:List PV} {cs':List AV} (hl:cs.length=cs'.length) (hc:∀(j:Nat) (x:PV) (y:AV),cs[j]? =some x->cs'[j]? =some y->RV C x y):RV C (.agg cs) (.agg cs')
 |tup {cs:List PV} {cs':List AV} (hl:cs.length=cs'.length) (hc:∀(j:Nat) (x:PV) (y:AV),cs[j]? =some x->cs'[j]? =some y->RV C x y):RV C (.tup cs) (.tup cs')
 |zs {d e:Nat} {rows:List (List PV)} {y:AV} (h:RZ C.z d (.is e rows) y):RV C (.zs d e rows) y
 |zm {es:List (PV×PV)} {id:Nat} {es':List (AV×AV)} (h:C.z id=some (.map es')) (he:EM es es'):RV C (.zm es) (.map id)
 |zm0:RV C (.zm []) (.v (.map none))
theorem RV.mono {C C':Cx} (a:C.le C') {x:PV} {y:AV} (h:RV C x y):RV C' x y:=by
 induction h with
 |cl h=>exact .cl h
 |undef=>exact .undef
 |ref h=>exact .ref (a.1 _ _ h)
 |own h=>exact .own (a.1 _ _ h)
 |ownn h hy=>exact .ownn (a.1 _ _ h) hy
 |el h=>exact .el (a.1 _ _ h)
 |map h=>exact .map (a.1 _ _ h)
 |yld h=>exact .yld (a.1 _ _ h)
 |fn h1 h2 v1 v2 i1 i2=>exact .fn h1 h2 i1 i2
 |agg hl hc ih=>exact .agg hl ih
 |tup hl hc ih=>exact .tup hl ih
 |zs h=>exact .zs (RZ.mono a.2 h)
 |zm h he=>exact .zm (a.2 _ _ h) he
 |zm0=>exact .zm0
def EnvR (C:Cx) (e:Env) (t:List AV):Prop:=∀i v,eget e i=some v->∃y,t[i]? =some y/\RV C v y
def StR:Bool->Option Ex->LoopState->Option IC->Prop
 |false,none,st,pend=>st=.ready/\pend=none
 |true,none,st,pend=>st=.busy
 |false,some (.exit i),st,pend=>st=.done/\pend=some (.exit i)
 |false,some .ret,st,pend=>st=.done/\pend=some .ret
 |_,_,_,_=>False
def ObjR (C:Cx) (L:Nat->Option AO) (lim nS:Nat):PObj->Pl->Prop
 |.box cells,.atp id ver _ _=>lim<=id/\id<nS/\∃ty esz row,L id=some (.arr true ty esz ver [row])/\LR (RV C) cells row
 |.lst _ e _ rows,.nil=>rows=[]
 |.lst ty e g rows,.atp id ver e' len=>lim<=id/\id<nS/\e'=e/\len=rows.length/\∃els,L id=some (.arr false (rty ty) e ver els)/\RR rows (els.take rows.length)/\rows.length<=els.length/\(g=false->els.length=rows.length)
 |.lz _ _ _ rows,.nil=>rows=[]
 |.lz ty e dp rows,.atp id ver e' len=>lim<=id/\id<nS/\e'=e/\len=rows.length/\isFx ty=false/\∃els,L id=some (.arr false ty e ver els)/\RRz C.z dp rows els
 |.mp es,.atp id _ _ _=>lim<=id/\id<nS/\∃es',L id=some (.map es')/\EM es es'
 |.fl fs,.atp id ver e len=>lim<=id/\id<nS/\e=1/\len=fs.length/\∃ty els,L id=some (.arr false ty 1 ver els)/\els.length=fs.length/\∀(i:Nat) (f:PV) (row:List AV),fs[i]? =some f->els[i]? =some row->LR (RV C) [f] row
 |.loop N e ps a b busy fin,.atp id _ _ _=>lim<=id/\id<nS/\∃st pend tmps,L id=some (.loop st pend tmps ps (erC a) (erC b))/\tmps.length=N/\EnvR C e tmps/\StR busy fin st pend
 |_,_=>False
def nbO:AO->Bool
 |.arr bx _ _ _ _=> !bx
 |.map _=>true
 |_=>false
structure HR (C:Cx) (h:Heap) (L:Nat->Option AO) (lim nS:Nat):Prop where
 ob:∀k po,hget h k=some po->∃pl,C k=some pl/\ObjR C L lim nS po pl
 inj:∀k k' id v e l v' e' l',hget h k≠none->hget h k'≠none->C k=some (.atp id v e l)->C k'=some (.atp id v' e' l')->k=k'
 zr:∀id o,C.z id=some o->L id=some o/\id<nS/\(∀k v e l,hget h k≠none->C k≠some (.atp id v e l))/\nbO o=true
def Own (C:Cx) (h:Heap) (id:Nat):Prop:=∃k v e l,hget h k≠none/\C k=some (.atp id v e l)
def cF:List Ent->List Ent->Prop
 |[],[]=>True
 |.mark::a,.mark::b=>cF a b
 |.ob i _::a,.ob j _::b=>i=j/\cF a b
 |_,_=>False
def Sk (h h':List Ent) (n:Nat):Prop:=∃pre r,h'=pre++r/\cF r h/\∀e∈pre,∃i o,e=.ob i o/\n<=i
theorem cF.refl:∀h,cF h h
 |[]=>trivial
 |.mark::a=>cF.refl a
 |.ob _ _::a=>⟨rfl,cF.refl a⟩
theorem cF.trans:∀{a b c:List Ent},cF a b->cF b c->cF a c
 |[],[],[],_,_=>trivial
 |.mark::a,.mark::b,.mark::c,h,k=>cF.trans (a:=a) h k
 |.ob _ _::a,.ob _ _::b,.ob _ _::c,h,k=>⟨h.1.trans k.1,cF.trans h.2 k.2⟩
theorem cF.upd:∀(h:List Ent) (id:Nat) (o:AO),cF (upd h id o) h
 |[],_,_=>trivial
 |.mark::a,id,o=>cF.upd a id o
 |.ob i o'::a,id,o=>by
  simp only[Sim.upd]
  split
  .exact ⟨rfl,.refl a⟩
  .exact ⟨rfl,cF.upd a id o⟩
theorem cF.split:∀{x pre r:List Ent},cF x (pre++r)->∃p q,x=p++q/\cF p pre/\cF q r
 |x,[],r,h=>⟨[],x,rfl,trivial,h⟩
 |.mark::x,.mark::pre,r,h=>by
  obtain⟨p,q,rfl,h1,h2⟩:=cF.split (x:=x) (pre:=pre) (r:=r) h
  exact⟨.mark::p,q,rfl,h1,h2⟩
 |.ob i o::x,.ob j o'::pre,r,h=>by
  obtain⟨p,q,rfl,h1,h2⟩:=cF.split (x:=x) (pre:=pre) (r:=r) h.2
  exact⟨.ob i o::p,q,rfl,⟨h.1,h1⟩,h2⟩
 |[],.mark::_,_,h=>h.elim
 |[],.ob _ _::_,_,h=>h.elim
 |.mark::_,.ob _ _::_,_,h=>h.elim
 |.ob _ _::_,.mark::_,_,h=>h.elim
theorem cF.obs {n:Nat}:∀{p pre:List Ent},cF p pre->(∀e∈pre,∃i o,e=.ob i o/\n<=i)->∀e∈p,∃i o,e=.ob i o/\n<=i
 |[],[],_,_,e,he=>by simp at he
 |.mark::p,.mark::pre,h,hp,e,he=>by
  obtain⟨i,o,k,_⟩:=hp .mark (by simp)
  cases k
 |.ob i o::p,.ob j o'::pre,h,hp,e,he=>by
  rcases mL1.1 he with rfl|he
  .obtain ⟨b,a,k,hk⟩:=hp (.ob j o') (by simp)
   cases k
   exact⟨i,o,rfl,by rw[h.1];exact hk⟩
  .exact cF.obs h.2 (fun e he=>hp e (by simp[he])) e he
theorem Sk.refl (h:List Ent) (n:Nat):Sk h h n:=⟨[],h,rfl,.refl h,fun e he=>by simp at he⟩
theorem Sk.trans {a b c:List Ent} {n m:Nat} (h:Sk a b n) (k:Sk b c m) (j:n<=m):Sk a c n:=by
 obtain⟨p,r,rfl,h1,h2⟩:=h
 obtain⟨q,r',rfl,f,g⟩:=k
 obtain⟨x,y,rfl,d,e2⟩:=f.split
 refine⟨q++x,y,by simp,e2.trans h1,fun e he=>?_⟩
 rcases oJ1.1 he with he|he
 .obtain ⟨i,o,rfl,hi⟩:=g e he
  exact⟨i,o,rfl,by omega⟩
 .exact d.obs h2 e he
theorem Sk.upd (h:List Ent) (id:Nat) (o:AO) (n:Nat):Sk h (upd h id o) n:=⟨[],_,rfl,.upd h id o,fun e he=>by simp at he⟩
theorem Sk.new (h:List Ent) (o:AO) (n:Nat):Sk h (.ob n o::h) n:=⟨[.ob n o],h,rfl,.refl h,fun e he=>by simp at he;exact⟨n,o,he,lW1 _⟩⟩
theorem qP {n:Nat}:∀{pre r:List Ent} {id:Nat},(∀e∈pre,∃i o,e=.ob i o/\n<=i)->id<n->Sim.look (pre++r) id=Sim.look r id
 |[],r,id,_,_=>rfl
 |e::pre,r,id,h,hid=>by
  obtain⟨i,o,rfl,hi⟩:=h e (by simp)
  simp only[oZ1,Sim.look]
  rw[lY1 (by omega)]
  exact qP (fun e he=>h e (by simp[he])) hid
theorem aR1 {n:Nat}:∀{pre r:List Ent},(∀e∈pre,∃i o,e=.ob i o/\n<=i)->∃a,Sim.popMark (pre++.mark::r)=a++r/\∀e∈a,∃i o,e=.ob i o/\n<=i
 |[],r,_=>⟨[],rfl,fun e he=>by simp at he⟩
 |e::pre,r,h=>by
  obtain⟨i,o,rfl,hi⟩:=h e (by simp)
  obtain⟨a,h1,h2⟩:=aR1 (r:=r) (fun e he=>h e (oL1 _ he))
  have keep:∃b,Ent.ob i o::Sim.popMark (pre++.mark::r)=b++r/\∀e∈b,∃i o,e=.ob i o/\n<=i:=
   ⟨.ob i o::a,by rw[h1];rfl,fun e he=>by
    rcases mL1.1 he with rfl|he
    .exact ⟨i,o,rfl,hi⟩
    .exact h2 e he⟩
  simp only[oZ1,Sim.popMark]
  split
  .exact ⟨a,h1,h2⟩
  .exact keep
theorem Sk.pop {h h':List Ent} {n:Nat} (hs:Sk (.mark::h) h' n):Sk h (Sim.popMark h') n/\∀id,id<n->Sim.look (Sim.popMark h') id=Sim.look h' id:=by
 obtain⟨pre,r,rfl,h1,h2⟩:=hs
 match r,h1 with
 |.mark::r,h1=>
  obtain⟨b,d,c⟩:=aR1 (r:=r) h2
  rw[d]
  refine⟨⟨b,r,rfl,h1,c⟩,fun id a=>?_⟩
  rw[qP c a,qP h2 a]
  rfl
end Go.P
namespace Go.P
open Go.Sim (AV AO Hp Ent upd St IC IX Ex OpK CK Wf)
section
variable {R:Type}
theorem sY (x:Value) (K:Value->Option R):aI1 x K=K x:=by cases x<;>rfl
theorem fX1 (x:PV) (K:PV->Option R):fPV x K=K x:=by
 cases x<;>simp[fPV,sY]
theorem kS:∀(xs:List PV) (K:List PV->Option R),fPVs xs K=K xs
 |[],K=>rfl
 |x::xs,K=>by simp[fPVs,fX1,kS xs]
theorem jQ1:∀(xs:List PV) (K:List PV->Option R),fV.fT xs K=K xs
 |[],K=>rfl
 |x::xs,K=>by
  have ih:=fun K=>jQ1 xs (K:List PV->Option R)
  cases x<;>simp[fV.fT,fX1,kS,ih]
theorem dY1 (x:PV) (K:PV->Option R):fV x K=K x:=by
 cases x<;>simp[fV,sY,kS,jQ1]
theorem aS {a b:Nat}:Nat.beq a b=decide (a=b):=by
 rw[Bool.eq_iff_iff];simp[Nat.beq_eq]
theorem cV:∀(e:Env) (i:Nat) (K:PV->Option R),getK e i K=(eget e i).bind K
 |[],_,_=>rfl
 |(j,v)::r,i,K=>by
  simp only[getK,eget,aS]
  by_cases h:j=i<;>simp[h,cV r i K]
theorem dW:∀(i:Nat) (a:List Nat),mem i a=a.contains i
 |_,[]=>rfl
 |i,j::a=>by
  simp only[mem,aS,List.contains_cons,dW i a]
  by_cases h:i=j<;>simp[h]
def edel:Env->List Nat->Env
 |[],_=>[]
 |(j,v)::r,is=>if j∈is then edel r is else(j,v)::edel r is
theorem bY:∀(e:Env) (is:List Nat) (K:Env->Option R),delK e is K=K (edel e is)
 |[],_,_=>rfl
 |(j,v)::r,is,K=>by
  simp only[delK,dW,edel]
  by_cases h:j∈is
  .simp [h,bY r is K]
  .simp [h,bY r is]
theorem nI:∀(e:Env) (is:List Nat) (i:Nat),eget (edel e is) i=if i∈is then none else eget e i
 |[],is,i=>by simp[edel,eget]
 |(j,v)::r,is,i=>by
  have ih:=nI r is i
  simp only[edel]
  by_cases h:j∈is
  .rw [mA1 h,ih]
   by_cases h2:j=i
   .subst h2;simp[h]
   .simp [eget,h2]
  .rw [lY1 h]
   by_cases h2:j=i
   .subst h2;simp[eget,h]
   .simp only[eget,lY1 h2,ih]
def evs (e:Env):List PX->Option (List PV)
 |[]=>some []
 |.t i::xs=>(eget e i).bind fun v=>(evs e xs).bind fun vs=>some (v::vs)
 |.c x::xs=>(evs e xs).bind fun vs=>some (x::vs)
theorem eB (e:Env):∀(xs:List PX) (K:List PV->Option R),evsK e xs K=(evs e xs).bind K
 |[],K=>rfl
 |.t i::xs,K=>by
  simp only[evsK,cV,evs,pG1]
  congr 1
  funext v
  rw[eB e xs]
  simp[pG1]
 |.c x::xs,K=>by
  simp only[evsK,evs,pG1]
  rw[eB e xs]
  simp[pG1]
theorem fN:∀(n:Nat) (l:List PV) (K:List PV->Option R) (r:R),kP n l K=some r->n<=l.length/\K (l.take n)=some r
 |0,l,K,r,h=>⟨nR1 _,by simpa[kP]using h⟩
 |n+1,[],K,r,h=>by simp[kP]at h
 |n+1,a::as,K,r,h=>by
  simp only[kP]at h
  obtain⟨h1,h2⟩:=fN n as _ r h
  exact⟨by simp;omega,by simpa using h2⟩
theorem bK:∀(n:Nat) (l:List PV) (K:List PV->Option R) (r:R),dQ n l K=some r->n<=l.length/\K (l.drop n)=some r
 |0,l,K,r,h=>⟨nR1 _,by simpa[dQ]using h⟩
 |n+1,[],K,r,h=>by simp[dQ]at h
 |n+1,a::as,K,r,h=>by
  simp only[dQ]at h
  obtain⟨h1,h2⟩:=bK n as _ r h
  exact⟨by simp;omega,by simpa using h2⟩
theorem gX {α:Type} (a:α):∀(cs as:List α) (n:Nat),Sim.setL (a::as) (n+1) cs=a::Sim.setL as n cs
 |[],as,n=>rfl
 |c::cs,as,n=>by simp only[Sim.setL,List.set_cons_succ];exact gX a cs _ _
theorem dX:∀(l:List PV) (o:Nat) (cs:List PV) (K:List PV->Option R) (r:R),setK l o cs K=some r->o+cs.length<=l.length/\K (Sim.setL l o cs)=some r
 |l,0,[],K,r,h=>⟨by simp,by simpa[setK,Sim.setL]using h⟩
 |[],0,c::cs,K,r,h=>by simp[setK]at h
 |[],n+1,cs,K,r,h=>by simp[setK]at h
 |a::as,0,c::cs,K,r,h=>by
  simp only[setK]at h
  obtain⟨h1,h2⟩:=dX as 0 cs _ r h
  refine⟨by simp;omega,?_⟩
  simp only[Sim.setL,List.set_cons_zero]
  rw[gX]
  exact h2
 |a::as,n+1,cs,K,r,h=>by
  simp only[setK]at h
  obtain⟨h1,h2⟩:=dX as n cs _ r h
  exact⟨by simp;omega,by rw[gX];exact h2⟩
theorem dA:∀(h:Heap) (k:Nat) (K:PObj->Option R),hK h k K=(hget h k).bind K
 |[],_,_=>rfl
 |(j,v)::r,i,K=>by
  simp only[hK,hget,aS]
  by_cases h:j=i<;>simp[h,dA r i K]
def hset:Heap->Nat->PObj->Heap
 |[],_,_=>[]
 |(j,v)::r,i,o=>if j=i then(j,o)::r else(j,v)::hset r i o
theorem bS:∀(h:Heap) (k:Nat) (o:PObj) (K:Heap->Option R) (r:R),eM h k o K=some r->K (hset h k o)=some r
 |[],_,_,_,_,h=>by simp[eM]at h
 |(j,v)::t,i,o,K,r,h=>by
  simp only[eM,aS]at h
  by_cases e:j=i
  .simp only[e,oR1,mF1]at h
   simp only[hset,e,mW1];exact h
  .simp only[e,decide_false,mT1]at h
   simp only[hset,lY1 e]
   exact bS t i o _ r h
theorem cQ:∀(h:Heap) (k:Nat) (o:PObj) (j:Nat),hget (hset h k o) j=if j=k/\(hget h k).isSome then some o else hget h j
 |[],k,o,j=>by simp[hset,hget]
 |(i,v)::r,k,o,j=>by
  have ih:=cQ r k o j
  by_cases h1:i=k
  .subst h1
   simp only[hset,mW1,hget]
   by_cases h2:i=j
   .subst h2;simp
   .have a:¬j=i:=fun e=>h2 e.symm
    simp[h2,a]
  .simp only[hset,lY1 h1,hget]
   by_cases h2:i=j
   .subst h2;simp[h1]
   .simp only[lY1 h2]
    exact ih
def cG:PV->Option (List PV)
 |.agg cs=>some cs
 |.tup _=>none
 |.undef=>none
 |x=>some [x]
theorem fO (x:PV) (K:List PV->Option R):iR x K=(cG x).bind K:=by cases x<;>rfl
theorem jY {C:Cx} {x:PV} {y:AV} {cs:List PV} (h:RV C x y) (hc:cG x=some cs):∃cs',y.cells=some cs'/\LR (RV C) cs cs':=by
 have one:∀{z:PV} {w:AV},RV C z w->(∀l,w≠.agg l)->(∀l,w≠.tup l)->cs=[z]->∃cs',w.cells=some cs'/\LR (RV C) cs cs':=by
  intro z w f h1 h2 e
  subst e
  refine⟨[w],?_,.cons f .nil⟩
  cases w<;>simp_all[AV.cells]
 cases h with
 |cl h=>
  cases h with
  |agg hl hc'=>simp[cG]at hc;subst hc;exact⟨_,rfl,hl,fun j x y a b=>.cl (hc' j x y a b)⟩
  |tup hl hc'=>simp[cG]at hc
  |v x=>exact one (.cl (.v x)) (by intro l e;cases e) (by intro l e;cases e) (by simpa[cG]using hc.symm)
  |is a b c=>exact one (.cl (.is a b c)) (by intro l e;cases e) (by intro l e;cases e) (by simpa[cG]using hc.symm)
  |isn=>exact one (.cl .isn) (by intro l e;cases e) (by intro l e;cases e) (by simpa[cG]using hc.symm)
  |ip a b=>exact one (.cl (.ip a b)) (by intro l e;cases e) (by intro l e;cases e) (by simpa[cG]using hc.symm)
  |im a b c=>exact one (.cl (.im a b c)) (by intro l e;cases e) (by intro l e;cases e) (by simpa[cG]using hc.symm)
  |fn a b c d=>exact one (.cl (.fn a b c d)) (by intro l e;cases e) (by intro l e;cases e) (by simpa[cG]using hc.symm)
 |undef=>simp[cG]at hc
 |agg hl hc'=>simp[cG]at hc;subst hc;exact⟨_,rfl,hl,hc'⟩
 |tup hl hc'=>simp[cG]at hc
 |ref h=>exact one (.ref h) (by intro l e;cases e) (by intro l e;cases e) (by simpa[cG]using hc.symm)
 |own h=>exact one (.own h) (by intro l e;cases e) (by intro l e;cases e) (by simpa[cG]using hc.symm)
 |ownn h hy=>subst hy;exact one (.ownn h rfl) (by intro l e;cases e) (by intro l e;cases e) (by simpa[cG]using hc.symm)
 |el h=>exact one (.el h) (by intro l e;cases e) (by intro l e;cases e) (by simpa[cG]using hc.symm)
 |map h=>exact one (.map h) (by intro l e;cases e) (by intro l e;cases e) (by simpa[cG]using hc.symm)
 |yld h=>exact one (.yld h) (by intro l e;cases e) (by intro l e;cases e) (by simpa[cG]using hc.symm)
 |fn a b c d=>exact one (.fn a b c d) (by intro l e;cases e) (by intro l e;cases e) (by simpa[cG]using hc.symm)
 |@zs d e rows y h=>
  refine one (.zs h) ?_ ?_ (by simpa[cG]using hc.symm)
  .intro l e;subst e
   cases d with
   |zero=>cases h
   |succ d=>rcases h with h|⟨_,_,_,_,_,_,_,h,_⟩<;>cases h
  .intro l e;subst e
   cases d with
   |zero=>cases h
   |succ d=>rcases h with h|⟨_,_,_,_,_,_,_,h,_⟩<;>cases h
 |zm h he=>exact one (.zm h he) (by intro l e;cases e) (by intro l e;cases e) (by simpa[cG]using hc.symm)
 |zm0=>exact one .zm0 (by intro l e;cases e) (by intro l e;cases e) (by simpa[cG]using hc.symm)
theorem vB (a b:IntKind):kEq a b=decide (a=b):=by cases a<;>cases b<;>rfl
theorem LR.zero {C:Cx} (zero:List Value):LR (RV C) (zero.map .v) (Sim.zeroRow zero):=by
 unfold Sim.zeroRow
 induction zero with
 |nil=>exact .nil
 |cons a as ih=>exact .cons (.cl (.v a)) ih
theorem LR.zeroP (zero:List Value):LR (RC true) (zero.map .v) (Sim.zeroRow zero):=by
 unfold Sim.zeroRow
 induction zero with
 |nil=>exact .nil
 |cons a as ih=>exact .cons (.v a) ih
theorem RV.plain {C:Cx} {x:PV} {y:AV} (h:RV C x y) (hp:cW x=true):RC true x y:=by
 cases h with
 |cl h=>exact h.plain hp
 |_=>simp[cW]at hp
theorem LR.plain {C:Cx} {xs:List PV} {ys:List AV} (h:LR (RV C) xs ys) (hp:xs.all cW=true):LR (RC true) xs ys:=
 ⟨h.1,fun j x y a b=>(h.2 j x y a b).plain (mB1.1 hp x (mE1 a))⟩
theorem lF (e:Nat):∀(xs:List PV) (K:List (List PV)->Option R) (r:R),nF e xs K=some r->∃rows,K rows=some r/\rows.length=xs.length/\
  ∀(i:Nat) (x:PV),xs[i]? =some x->∃cs,cG x=some cs/\cs.length=e/\cs.all cW=true/\rows[i]? =some cs
 |[],K,r,h=>⟨[],h,rfl,fun i x d=>by simp at d⟩
 |x::xs,K,r,h=>by
  simp only[nF,fO,lT1]at h
  obtain⟨cs,a,h⟩:=h
  by_cases hc:(Nat.beq cs.length e&&cs.all cW)=true
  .rw [hc,mF1]at h
   simp only[lU1,aS,mU1]at hc
   obtain⟨rows,h1,h2,b⟩:=lF e xs _ r h
   refine⟨cs::rows,h1,by simp[h2],fun i y hy=>?_⟩
   cases i with
   |zero=>simp at hy;subst hy;exact⟨cs,a,hc.1,hc.2,rfl⟩
   |succ i=>simp at hy;obtain⟨c,f,g,j,k⟩:=b i y hy;exact⟨c,f,g,j,by simpa using k⟩
  .simp only[nX1]at hc
   rw[hc]at h
   simp at h
theorem sZ:∀(i:Nat) (a:List Nat),upTo i a=true->a=List.range' i a.length
 |_,[],_=>rfl
 |i,j::a,h=>by
  simp only[upTo,aS]at h
  by_cases e:i=j
  .simp only[e,oR1,mF1]at h
   subst e
   rw[nH1,List.range'_succ]
   congr 1
   exact sZ _ a h
  .simp [e]at h
end
end Go.P
namespace Go.P
open Go.Sim (AV AO Hp Ent upd St IC IX Ex OpK CK Wf Out doOp)
structure Mem (C:Cx) (n:Nat) (h:Heap) (lim:Nat) (s:Hp):Prop where
 hr:HR C h (Sim.look s.h) lim s.n
 dom:∀k pl,C k=some pl->k<n
 wf:Wf s.h s.n
 lim:lim<=s.n
def dG:PObj->Bool
 |.lst ty _ _ _=>isFx ty
 |.lz .. =>false
 |_=>true
structure Fr (C:Cx) (h:Heap) (s:Hp) (C':Cx) (h':Heap) (s':Hp):Prop where
 sk:Sk s.h s'.h s.n
 n:s.n<=s'.n
 keep:∀id,id<s.n->¬Own C h id->Sim.look s'.h id=Sim.look s.h id
 own:∀id,id<s.n->Own C' h' id->Own C h id
 kd:∀k o,hget h k=some o->∃o',hget h' k=some o'/\(dG o'=true->dG o=true/\C' k=C k)
 zl:∀id o,C.z id=some o->C'.z id=some o
 zn:∀id,id<s.n->C'.z id≠none->C.z id≠none\/Own C h id
theorem Fr.refl (C:Cx) (h:Heap) (s:Hp):Fr C h s C h s:=⟨.refl _ _,lW1 _,fun _ _ _=>rfl,fun _ _ h=>h,fun k o h=>⟨o,h,fun hb=>⟨hb,rfl⟩⟩,fun _ _ h=>h,fun _ _ h=>.inl h⟩
theorem Fr.trans {C C' C'':Cx} {h h' d:Heap} {s s' e:Hp} (a:Fr C h s C' h' s') (b:Fr C' h' s' C'' d e):Fr C h s C'' d e:=
  ⟨a.sk.trans b.sk a.n,nC1 a.n b.n,fun id c j=>by
    rw[b.keep id (nS1 c a.n) (fun g=>j (a.own id c g)),a.keep id c j],
   fun id c g=>a.own id c (b.own id (nS1 c a.n) g),
   fun k o hk=>by
    obtain⟨o',h1,h2⟩:=a.kd k o hk
    obtain⟨i,l,f⟩:=b.kd k o' h1
    exact⟨i,l,fun hb=>⟨(h2 (f hb).1).1,(f hb).2.trans (h2 (f hb).1).2⟩⟩,
   fun id o h=>b.zl id o (a.zl id o h),
   fun id c h=>by
    rcases b.zn id (nS1 c a.n) h with h1|h1
    .exact a.zn id c h1
    .exact .inr (a.own id c h1)⟩
def cA {R:Type} (C:Cx) (n:Nat) (h:Heap) (lim:Nat) (s:Hp) (k:OpK) (ys:List AV) (K:PV->Heap->Nat->Option R) (r:R):Prop:=
 ∃v h' n' C' out,K v h' n'=some r/\doOp (Sim.look s.h) lim s.n k ys=some out/\RV C' v out.v/\Mem C' n' h' lim (out.apply s)/\
  C.le C'/\n<=n'/\Fr C h s C' h' (out.apply s)/\(aO1 k=false->∀id,id<s.n->Sim.look (out.apply s).h id=Sim.look s.h id)
section
variable {R:Type} {C:Cx} {n:Nat} {h:Heap} {lim:Nat} {s:Hp} {k:OpK} {ys:List AV} {K:PV->Heap->Nat->Option R} {r:R}
theorem aQ (a:Mem C n h lim s) {v:PV} {y:AV} (hd:doOp (Sim.look s.h) lim s.n k ys=some {v:=y}) (hv:RV C v y) (hK:K v h n=some r):cA C n h lim s k ys K r:=
 ⟨v,h,n,C,_,hK,hd,hv,a,.refl C,lW1 _,.refl _ _ _,fun _ _ _=>rfl⟩
theorem bX {h:List Ent} {n:Nat} {o:AO} {id:Nat}:Sim.look (.ob n o::h) id=if n=id then some o else Sim.look h id:=rfl
def ext (C:Cx) (n:Nat) (pl:Pl):Cx:=⟨fun k=>if k=n then some pl else C k,C.z⟩
theorem gJ (a:Mem C n h lim s) (pl:Pl):C.le (ext C n pl):=⟨fun k q hk=>by
 have:=a.dom k q hk
 simp only[ext]
 rw[lY1 (by omega)]
 exact hk,fun _ _ h=>h⟩
theorem ObjR.mono {C':Cx} {L L':Nat->Option AO} {nS m:Nat} {po:PObj} {pl:Pl} (p:nS<=m) (n:C.le C') (l:∀id ver e len,pl=.atp id ver e len->L' id=L id) (c:ObjR C L lim nS po pl):ObjR C' L' lim m po pl:=by
 cases po with
 |box cells=>
  cases pl with
  |nil=>exact c
  |atp id ver e len=>
   obtain⟨h1,h2,ty,esz,row,d,h⟩:=c
   exact⟨h1,by omega,ty,esz,row,by rw[l id ver e len rfl];exact d,h.mono (fun x y hv=>hv.mono n)⟩
 |lst ty e g rows=>
  cases pl with
  |nil=>exact c
  |atp id ver e' len=>
   obtain⟨h1,h2,d,h,els,j,k⟩:=c
   exact⟨h1,by omega,d,h,els,by rw[l id ver e' len rfl];exact j,k⟩
 |lz ty e dp rows=>
  cases pl with
  |nil=>exact c
  |atp id ver e' len=>
   obtain⟨h1,h2,d,h,hf,els,j,k⟩:=c
   exact⟨h1,by omega,d,h,hf,els,by rw[l id ver e' len rfl];exact j,k.mono n.2⟩
 |mp es=>
  cases pl with
  |nil=>exact c
  |atp id ver e len=>
   obtain⟨h1,h2,es',d,h⟩:=c
   exact⟨h1,by omega,es',by rw[l id ver e len rfl];exact d,h⟩
 |fl fs=>
  cases pl with
  |nil=>exact c
  |atp id ver e len=>
   obtain⟨h1,h2,d,h,ty,els,j,k,o⟩:=c
   exact⟨h1,by omega,d,h,ty,els,by rw[l id ver e len rfl];exact j,k,fun i f row a b=>(o i f row a b).mono (fun x y hv=>hv.mono n)⟩
 |loop N e ps a b busy fin=>
  cases pl with
  |nil=>exact c
  |atp id ver e' len=>
   obtain⟨h1,h2,st,pend,tmps,d,h,j,k⟩:=c
   exact⟨h1,by omega,st,pend,tmps,by rw[l id ver e' len rfl];exact d,h,fun i v hv=>(j i v hv).imp fun y hy=>⟨hy.1,hy.2.mono n⟩,k⟩
theorem ObjR.lt {L:Nat->Option AO} {nS id ver e len:Nat} {po:PObj} (c:ObjR C L lim nS po (.atp id ver e len)):lim<=id/\id<nS:=by
 cases po with
 |box cells=>exact⟨c.1,c.2.1⟩
 |lst ty e g rows=>exact⟨c.1,c.2.1⟩
 |lz ty e dp rows=>exact⟨c.1,c.2.1⟩
 |mp es=>exact⟨c.1,c.2.1⟩
 |fl fs=>exact⟨c.1,c.2.1⟩
 |loop N e ps a b busy fin=>exact⟨c.1,c.2.1⟩
theorem HR.lt {L:Nat->Option AO} {nS:Nat} (H:HR C h L lim nS) {k id ver e len:Nat} (hk:hget h k≠none) (a:C k=some (.atp id ver e len)):lim<=id/\id<nS:=by
 cases ho:hget h k with
 |none=>exact absurd ho hk
 |some po=>
  obtain⟨pl,h1,h2⟩:=H.ob k po ho
  rw[a]at h1
  cases h1
  exact h2.lt
theorem dZ1 (a:Mem C n h lim s) {k:Nat} (hk:n<=k):C k=none:=by
 cases hc:C k with
 |none=>rfl
 |some pl=>have:=a.dom k pl hc;omega
theorem nJ (a:Mem C n h lim s) {k:Nat} (hk:n<=k):hget h k=none:=by
 cases hc:hget h k with
 |none=>rfl
 |some po=>
  obtain⟨pl,h1,_⟩:=a.hr.ob k po hc
  have:=a.dom k pl h1
  omega
theorem jR1 (b:Mem C n h lim s) {po:PObj} {pl:Pl}:∀k o,hget h k=some o->∃o',hget ((n,po)::h) k=some o'/\(dG o'=true->dG o=true/\ext C n pl k=C k):=fun k o hk=>by
 have a:n≠k:=fun e=>by rw[nJ b (by omega)]at hk;cases hk
 exact⟨o,by simp[hget,a,hk],fun hb=>⟨hb,by simp[ext,Ne.symm a]⟩⟩
theorem lG (g:Mem C n h lim s) {po:PObj} {ao:AO} {ver e len:Nat} (z:ObjR (ext C n (.atp s.n ver e len)) (Sim.look (.ob s.n ao::s.h)) lim (s.n+1) po (.atp s.n ver e len)):
  Mem (ext C n (.atp s.n ver e len)) (n+1) ((n,po)::h) lim {h:=.ob s.n ao::s.h,n:=s.n+1}/\Fr C h s (ext C n (.atp s.n ver e len)) ((n,po)::h) {h:=.ob s.n ao::s.h,n:=s.n+1}/\
  ∀id,id<s.n->Sim.look (.ob s.n ao::s.h) id=Sim.look s.h id:=by
 have p:=gJ g (.atp s.n ver e len)
 have c:∀id,id<s.n->Sim.look (.ob s.n ao::s.h) id=Sim.look s.h id:=fun id i=>by
  rw[bX,lY1 (by omega)]
 have f:∀k,hget ((n,po)::h) k≠none->k≠n->hget h k≠none:=fun k hk j=>by
  simpa[hget,Ne.symm j]using hk
 have d:∀k q,k≠n->ext C n (.atp s.n ver e len) k=some q->C k=some q:=fun k q j hk=>by
  simpa[ext,j]using hk
 refine⟨⟨⟨fun k o hk=>?_,fun k k' id v1 m y v2 e2 B h1 h2 t u=>?_,fun id o A=>?_⟩,fun k pl hk=>?_,⟨by simp,g.wf⟩,by have:=g.lim;show lim<=s.n+1;omega⟩,⟨.new _ _ _,by simp,fun id i _=>c id i,fun id i w=>?_,jR1 g,fun _ _ h=>h,fun _ _ h=>.inl h⟩,c⟩
 .simp only[hget]at hk
  split at hk
  .rename_i m
   subst m
   cases hk
   exact⟨_,by simp[ext],z⟩
  .obtain ⟨pl,x,r⟩:=g.hr.ob k o hk
   refine⟨pl,p.1 _ _ x,r.mono (by simp) p (fun id ver e len hp=>?_)⟩
   subst hp
   exact c id r.lt.2
 .by_cases a:k=n
  .by_cases b:k'=n
   .rw [a,b]
   .exfalso
    subst a
    simp[ext]at t
    have:=(g.hr.lt (f k' h2 b) (d k' _ b u)).2
    omega
  .by_cases b:k'=n
   .exfalso
    subst b
    simp[ext]at u
    have:=(g.hr.lt (f k h1 a) (d k _ a t)).2
    omega
   .exact g.hr.inj k k' id v1 m y v2 e2 B (f k h1 a) (f k' h2 b) (d k _ a t) (d k' _ b u)
 .obtain ⟨z1,z2,z3,z4⟩:=g.hr.zr id o A
  refine⟨(c id z2).trans z1,Nat.lt_succ_of_lt z2,fun k v e' l h1 h2=>?_,z4⟩
  by_cases a:k=n
  .subst a
   simp[ext]at h2
   omega
  .exact z3 k v e' l (f k h1 a) (d k _ a h2)
 .by_cases a:k=n
  .omega
  .have:=g.dom k pl (d k pl a hk)
   omega
 .obtain ⟨k,v1,m,y,x,r⟩:=w
  by_cases a:k=n
  .subst a
   simp[ext]at r
   omega
  .exact ⟨k,v1,m,y,f k x a,d k _ a r⟩
theorem aS1 (C:Cx) (L:Nat->Option AO) (lim nS ty e:Nat) (g:Bool):ObjR C L lim nS (kR ty e g) .nil:=by
 unfold kR
 cases Nat.ble 4294967296 e<;>rfl
theorem aT1 (f:Mem C n h lim s) {ty e:Nat} {g:Bool}:Mem (ext C n .nil) (n+1) ((n,kR ty e g)::h) lim s/\Fr C h s (ext C n .nil) ((n,kR ty e g)::h) s:=by
 have m:=gJ f .nil
 have d:∀k,hget ((n,kR ty e g)::h) k≠none->k≠n->hget h k≠none:=fun k hk i=>by
  simpa[hget,Ne.symm i]using hk
 have c:∀k q,k≠n->ext C n .nil k=some q->C k=some q:=fun k q i hk=>by
  simpa[ext,i]using hk
 refine⟨⟨⟨fun k o hk=>?_,fun k k' id v1 j w v2 e2 A h1 h2 x y=>?_,fun id o z=>?_⟩,fun k pl hk=>?_,f.wf,f.lim⟩,⟨.refl _ _,lW1 _,fun id r _=>rfl,fun id r t=>?_,jR1 f,fun _ _ h=>h,fun _ _ h=>.inl h⟩⟩
 .simp only[hget]at hk
  split at hk
  .rename_i j
   subst j
   cases hk
   exact⟨.nil,by simp[ext],aS1 ..⟩
  .obtain ⟨pl,u,p⟩:=f.hr.ob k o hk
   exact⟨pl,m.1 _ _ u,p.mono (lW1 _) m (fun _ _ _ _ _=>rfl)⟩
 .by_cases a:k=n
  .subst a;simp[ext]at x
  .by_cases b:k'=n
   .subst b;simp[ext]at y
   .exact f.hr.inj k k' id v1 j w v2 e2 A (d k h1 a) (d k' h2 b) (c k _ a x) (c k' _ b y)
 .obtain ⟨z1,z2,z3,z4⟩:=f.hr.zr id o z
  refine⟨z1,z2,fun k v e' l h1 h2=>?_,z4⟩
  by_cases a:k=n
  .subst a
   simp[ext]at h2
  .exact z3 k v e' l (d k h1 a) (c k _ a h2)
 .by_cases a:k=n
  .omega
  .have:=f.dom k pl (c k pl a hk)
   omega
 .obtain ⟨k,v1,j,w,u,p⟩:=t
  by_cases a:k=n
  .subst a;simp[ext]at p
  .exact ⟨k,v1,j,w,d k u a,c k _ a p⟩
theorem nK (g:Mem C n h lim s) {k id ver e len:Nat} {po po':PObj} {ao:AO} (hk:hget h k=some po) (p:C k=some (.atp id ver e len))
  (z:ObjR C (Sim.look (upd s.h id ao)) lim s.n po' (.atp id ver e len)) (hb:dG po'=dG po):
  Mem C n (hset h k po') lim {h:=upd s.h id ao,n:=s.n}/\Fr C h s C (hset h k po') {h:=upd s.h id ao,n:=s.n}:=by
 have b:∀j,hget (hset h k po') j=if j=k then some po' else hget h j:=fun j=>by
  rw[cQ]
  simp[hk]
 have f:∀j,hget (hset h k po') j≠none->hget h j≠none:=fun j c=>by
  rw[b]at c
  split at c
  .rename_i a;subst a;rw[hk];simp
  .exact c
 have d:∀j,j≠id->Sim.look (upd s.h id ao) j=Sim.look s.h j:=fun j c=>by
  rw[Sim.look_upd]
  simp[c]
 refine⟨⟨⟨fun j o c=>?_,fun j w i v1 a m v2 e2 B h1 h2 x y=>g.hr.inj j w i v1 a m v2 e2 B (f j h1) (f w h2) x y,fun i o A=>?_⟩,g.dom,g.wf.upd _ _,g.lim⟩,⟨.upd _ _ _ _,lW1 _,fun i hi t=>d i (fun a=>t ?_),fun i hi t=>?_,fun j o c=>?_,fun _ _ h=>h,fun _ _ h=>.inl h⟩⟩
 .rw [b]at c
  split at c
  .rename_i a
   subst a
   cases c
   exact⟨_,p,z⟩
  .rename_i r
   obtain⟨pl,q,u⟩:=g.hr.ob j o c
   refine⟨pl,q,u.mono (lW1 _) (.refl C) (fun i v1 a m hp=>d i (fun e2=>r ?_))⟩
   subst hp
   subst e2
   exact g.hr.inj j k i v1 a m ver e len (by rw[c];simp) (by rw[hk];simp) q p
 .obtain ⟨z1,z2,z3,z4⟩:=g.hr.zr i o A
  refine⟨(d i (fun a=>?_)).trans z1,z2,fun j v e' l h1 h2=>z3 j v e' l (f j h1) h2,z4⟩
  subst a
  exact z3 k ver e len (by rw[hk];simp) p
 .subst a
  exact⟨k,ver,e,len,by rw[hk];simp,p⟩
 .obtain ⟨j,v1,a,m,q,u⟩:=t
  exact⟨j,v1,a,m,f j q,u⟩
 .rw [b]
  by_cases a:j=k
  .subst a
   rw[hk]at c
   cases c
   exact⟨po',by simp,fun h=>⟨by rw[<-hb];exact h,rfl⟩⟩
  .exact ⟨o,by simp[a,c],fun h=>⟨h,rfl⟩⟩
end
end Go.P
namespace Go.P
open Go.Sim (AV AO Hp Ent upd St IC IX Ex OpK CK Wf Out doOp)
section
variable {C:Cx} {y:AV}
theorem rv_v {x:Value} (h:RV C (.v x) y):y=.v x:=by cases h with|cl h=>cases h;rfl
theorem gK {cs:List PV} (h:RV C (.agg cs) y):∃cs',y=.agg cs'/\LR (RV C) cs cs':=by
 cases h with
 |cl h=>cases h with|agg a b=>exact⟨_,rfl,a,fun j x y p q=>.cl (b j x y p q)⟩
 |agg a b=>exact⟨_,rfl,a,b⟩
theorem aU1 {cs:List PV} (h:RV C (.tup cs) y):∃cs',y=.tup cs'/\LR (RV C) cs cs':=by
 cases h with
 |cl h=>cases h with|tup a b=>exact⟨_,rfl,a,fun j x y p q=>.cl (b j x y p q)⟩
 |tup a b=>exact⟨_,rfl,a,b⟩
theorem vC {cs:List PV} (h:RV C (.ip cs) y):∃cs',y=.ip cs'/\LR (RC false) cs cs':=by
 cases h with
 |cl h=>cases h with|ip a b=>exact⟨_,rfl,a,b⟩
theorem eA1 {e:Nat} {rows:List (List PV)} (h:RV C (.is e rows) y):(∃rows',y=.is e rows'/\RR rows rows')\/(rows=[]/\(y=.v (.slice none 0 0)\/y=.es)):=by
 cases h with
 |cl h=>cases h with
  |is a b c=>exact .inl ⟨_,rfl,.of_is a b c⟩
  |isn=>exact .inr ⟨rfl,.inl rfl⟩
theorem jS1 {es:List (PV×PV)} (h:RV C (.im es) y):∃es',y=.im es'/\ER es es':=by
 cases h with
 |cl h=>cases h with|im a b c=>exact⟨_,rfl,a,fun j x y p q=>⟨b j x y p q,c j x y p q⟩⟩
theorem fP {k o:Nat} (h:RV C (.ref k o) y):∃id ver e len,C k=some (.atp id ver e len)/\y=.ptr id ver 0 o:=by
 cases h with
 |cl h=>cases h
 |ref h=>exact⟨_,_,_,_,h,rfl⟩
theorem eN {k:Nat} (h:RV C (.own k) y):(∃id ver e len,C k=some (.atp id ver e len)/\y=.sl e id ver 0 len none)\/(C k=some .nil/\(y=.v (.slice none 0 0)\/y=.es)):=by
 cases h with
 |cl h=>cases h
 |own h=>exact .inl ⟨_,_,_,_,h,rfl⟩
 |ownn h hy=>exact .inr ⟨h,.inl hy⟩
theorem tA {e:Nat} {rows:List (List PV)} (h:RV C (.is e rows) y):(∃rows',y=.is e rows'/\RR rows rows')\/(rows=[]/\y=.v (.slice none 0 0)):=by
 cases h with
 |cl h=>cases h with
  |is a b c=>exact .inl ⟨_,rfl,.of_is a b c⟩
  |isn=>exact .inr ⟨rfl,rfl⟩
theorem gY {k:Nat} (h:RV C (.own k) y):(∃id ver e len,C k=some (.atp id ver e len)/\y=.sl e id ver 0 len none)\/(C k=some .nil/\y=.v (.slice none 0 0)):=by
 cases h with
 |cl h=>cases h
 |own h=>exact .inl ⟨_,_,_,_,h,rfl⟩
 |ownn h hy=>exact .inr ⟨h,hy⟩
theorem vD {k i o:Nat} (h:RV C (.el k i o) y):∃id ver e len,C k=some (.atp id ver e len)/\y=.ptr id ver i o:=by
 cases h with
 |cl h=>cases h
 |el h=>exact⟨_,_,_,_,h,rfl⟩
theorem pD {k:Nat} (h:RV C (.map k) y):∃id ver e len,C k=some (.atp id ver e len)/\y=.map id:=by
 cases h with
 |cl h=>cases h
 |map h=>exact⟨_,_,_,_,h,rfl⟩
theorem wN {k:Nat} (h:RV C (.yld k) y):∃id ver e len,C k=some (.atp id ver e len)/\y=.fn (.yield id) [] []:=by
 cases h with
 |cl h=>cases h
 |yld h=>exact⟨_,_,_,_,h,rfl⟩
theorem qQ {f:FuncId} {a b:List PV} (h:RV C (.fn f a b) y):∃a' b',y=.fn (.func f) a' b'/\LR (RV C) a a'/\LR (RV C) b b':=by
 cases h with
 |cl h=>cases h with|fn p q r s=>exact⟨_,_,rfl,⟨p,fun j x y h1 h2=>.cl (r j x y h1 h2)⟩,⟨q,fun j x y h1 h2=>.cl (s j x y h1 h2)⟩⟩
 |fn p q r s=>exact⟨_,_,rfl,⟨p,r⟩,⟨q,s⟩⟩
theorem LR.closed {xs:List PV} {ys:List AV} {p:Bool} (h:LR (RC p) xs ys):LR (RV C) xs ys:=h.mono fun _ _ h=>.cl h.weak
theorem jZ {α:Type} {l:List α} {o:Nat} {c:α} {t:List α} (h:l.drop o=c::t):l[o]? =some c:=by
 have:=congrArg (fun l=>l[0]?) h
 simpa[nD1]using this
end
section
variable {R:Type} {C:Cx} {n:Nat} {h:Heap} {lim:Nat} {s:Hp} {k:OpK} {xs:List PV} {ys:List AV} {K:PV->Heap->Nat->Option R} {r:R}
theorem iS (C:Cx) (n:Nat) (pl:Pl):ext C n pl n=some pl:=mA1 rfl
theorem aB {A:Type} {a:A} {P:Prop} (h:(none:Option A)=some a):P:=by cases h
theorem jT1 (a:Mem C n h lim s) (b:LR (RV C) xs ys) (hk:bP .mov xs h n K=some r):cA C n h lim s .mov ys K r:=by
 rcases xs with _|⟨x,_|⟨x2,t⟩⟩
 .exact aB hk
 .have hk:K x h n=some r:=hk
  obtain⟨y,_,rfl,h1,h2⟩:=b.inv_cons
  rw[h2.inv_nil]
  exact aQ a rfl h1 hk
 .exact aB hk
theorem hJ1 (c:Mem C n h lim s) (d:LR (RV C) xs ys) (hk:bP .nilc xs h n K=some r):cA C n h lim s .nilc ys K r:=by
 rcases xs with _|⟨x,_|⟨x2,t⟩⟩
 .exact aB hk
 .obtain ⟨y,_,rfl,h1,h2⟩:=d.inv_cons
  rw[h2.inv_nil]
  cases x with
  |ref k o=>obtain⟨id,ver,e,len,hc,rfl⟩:=fP h1;exact aQ c rfl h1 hk
  |ip cs=>obtain⟨cs',rfl,_⟩:=vC h1;exact aQ c rfl h1 hk
  |el k i o=>obtain⟨id,ver,e,len,hc,rfl⟩:=vD h1;exact aQ c rfl h1 hk
  |fn f a b=>obtain⟨a',b',rfl,_⟩:=qQ h1;exact aQ c rfl h1 hk
  |yld k=>obtain⟨id,ver,e,len,hc,rfl⟩:=wN h1;exact aQ c rfl h1 hk
  |_=>exact aB hk
 .exact aB hk
theorem jU1 {ty:TypeId} {size:Nat} (c:Mem C n h lim s) (f:LR (RV C) xs ys) (hk:bP (.box ty size) xs h n K=some r):cA C n h lim s (.box ty size) ys K r:=by
 rcases xs with _|⟨x,_|⟨x2,t⟩⟩
 .exact aB hk
 .have hk:iR x (fun cs=>bif Nat.beq cs.length size then(bif Nat.beq size 0 then none else K (.ref n 0) ((n,.box cs)::h) (n+1))else none)=some r:=hk
  obtain⟨y,_,rfl,h1,h2⟩:=f.inv_cons
  rw[h2.inv_nil]
  rw[fO,lT1]at hk
  obtain⟨cs,d,hk⟩:=hk
  obtain⟨cs',hc',hl⟩:=jY h1 d
  rw[aS]at hk
  by_cases b:cs.length=size
  .rw [mY1 b,mF1,aS]at hk
   by_cases e2:size=0
   .rw [mY1 e2]at hk;exact aB hk
   .rw [mK1 e2,mT1]at hk
    have a:=gJ c (.atp s.n 0 size 1)
    obtain⟨g,i,j⟩:=lG c (po:=.box cs) (ao:=.arr true ty size 0 [cs']) (ver:=0) (e:=size) (len:=1) ⟨c.lim,by omega,ty,size,cs',by rw[bX,mA1 rfl],hl.mono (fun _ _ h=>h.mono a)⟩
    refine⟨_,_,_,_,{v:=.ptr s.n 0 0 0,new:=some (.arr true ty size 0 [cs'])},hk,?_,.ref (iS C n _),g,a,by omega,i,fun _=>j⟩
    simp only[doOp,hc']
    rw[mA1 ⟨by rw[<-hl.1];exact b,e2⟩]
  .rw [mK1 b]at hk;exact aB hk
 .exact aB hk
theorem eB1 {ty:TypeId} {zero:List Value} (a:Mem C n h lim s) (c:LR (RV C) xs ys) (hk:bP (.alloc ty zero) xs h n K=some r):cA C n h lim s (.alloc ty zero) ys K r:=by
 rcases xs with _|⟨x,t⟩
 .have hk:fPVs (zero.map .v) (fun cs=>K (.ref n 0) ((n,.box cs)::h) (n+1))=some r:=hk
  rw[kS]at hk
  rw[c.inv_nil]
  have b:=gJ a (.atp s.n 0 zero.length 1)
  obtain⟨d,f,g⟩:=lG a (po:=.box (zero.map .v)) (ao:=.arr true ty zero.length 0 [Sim.zeroRow zero]) (ver:=0) (e:=zero.length) (len:=1) ⟨a.lim,by omega,ty,zero.length,Sim.zeroRow zero,by rw[bX,mA1 rfl],LR.zero zero⟩
  exact⟨_,_,_,_,{v:=.ptr s.n 0 0 0,new:=some (.arr true ty zero.length 0 [Sim.zeroRow zero])},hk,rfl,.ref (iS C n _),d,b,by omega,f,fun _=>g⟩
 .exact aB hk
theorem pE:∀(cells:List PV) (parts:List (Nat×Nat)) (xs:List PV) (K:List PV->Option R) (r:R) (a ys:List AV),aJ1 cells parts xs K=some r->LR (RV C) cells a->LR (RV C) xs ys->
  ∃cs cs',K cs=some r/\Sim.fillParts a parts ys=some cs'/\LR (RV C) cs cs'
 |cells,[],[],K,r,a,ys,h,hl,hx=>by
  rw[hx.inv_nil]
  exact⟨cells,a,h,rfl,hl⟩
 |cells,(off,m)::ps,x::xs,K,r,a,ys,h,hl,hx=>by
  obtain⟨y,e,rfl,h1,h2⟩:=hx.inv_cons
  simp only[aJ1,fO,lT1]at h
  obtain⟨cs,d,h⟩:=h
  obtain⟨cs',hc',b⟩:=jY h1 d
  rw[aS]at h
  by_cases c:cs.length=m
  .rw [mY1 c,mF1]at h
   obtain⟨i,f⟩:=dX _ _ _ _ _ h
   obtain⟨q,g,q1,q2,q3⟩:=pE _ ps xs K r _ e f (hl.setL b off) h2
   refine⟨q,g,q1,?_,q3⟩
   simp only[Sim.fillParts,hc']
   rw[mA1 ⟨by rw[<-b.1];exact c,by rw[<-hl.1];omega⟩]
   exact q2
  .rw [mK1 c]at h;exact aB h
 |cells,[],_::_,K,r,a,ys,h,hl,hx=>aB h
 |cells,_::_,[],K,r,a,ys,h,hl,hx=>aB h
theorem eC1 {zero:List Value} {parts:List (Nat×Nat)} (e:Mem C n h lim s) (f:LR (RV C) xs ys) (hk:bP (.build zero parts) xs h n K=some r):cA C n h lim s (.build zero parts) ys K r:=by
 have hk:fPVs (zero.map .v) (fun cs=>aJ1 cs parts xs fun cs=>K (.agg cs) h n)=some r:=by
  rcases xs with _|⟨a,_|⟨b,_|⟨c,t⟩⟩⟩<;>exact hk
 rw[kS]at hk
 obtain⟨cs,cs',g,i,d⟩:=pE _ _ _ _ _ _ _ hk (LR.zero (C:=C) zero) f
 refine aQ e ?_ (.agg d.1 d.2) g
 rcases ys with _|⟨a,_|⟨b,_|⟨c,t⟩⟩⟩<;>simp[doOp,i]
theorem nL (f:Mem C n h lim s) {k id ver e len:Nat} {cs:List PV} (hg:hget h k=some (.box cs)) (d:C k=some (.atp id ver e len)):lim<=id/\∃ty esz row,Sim.look s.h id=some (.arr true ty esz ver [row])/\LR (RV C) cs row:=by
 obtain⟨pl,h1,h2⟩:=f.hr.ob k _ hg
 rw[d]at h1
 cases h1
 obtain⟨a,b,c⟩:=h2
 exact⟨a,c⟩
theorem eU (j:Mem C n h lim s) {k id ver e len e2 ty:Nat} {g:Bool} {rows:List (List PV)} (hg:hget h k=some (.lst ty e2 g rows)) (i:C k=some (.atp id ver e len)):lim<=id/\e=e2/\len=rows.length/\∃els,Sim.look s.h id=some (.arr false (rty ty) e2 ver els)/\RR rows (els.take rows.length)/\rows.length<=els.length/\(g=false->els.length=rows.length):=by
 obtain⟨pl,h1,h2⟩:=j.hr.ob k _ hg
 rw[i]at h1
 cases h1
 obtain⟨a,b,c,d,f⟩:=h2
 exact⟨a,c,d,f⟩
theorem hK1 (j:Mem C n h lim s) {k id ver e len:Nat} {fs:List PV} (hg:hget h k=some (.fl fs)) (g:C k=some (.atp id ver e len)):lim<=id/\e=1/\len=fs.length/\∃ty els,Sim.look s.h id=some (.arr false ty 1 ver els)/\els.length=fs.length/\∀(i:Nat) (f:PV) (row:List AV),fs[i]? =some f->els[i]? =some row->LR (RV C) [f] row:=by
 obtain⟨pl,h1,h2⟩:=j.hr.ob k _ hg
 rw[g]at h1
 cases h1
 obtain⟨a,b,c,d,f⟩:=h2
 exact⟨a,c,d,f⟩
theorem fY1 (b:Mem C n h lim s) {k:Nat} {fs:List PV} (hg:hget h k=some (.fl fs)) (a:C k=some .nil):False:=by
 obtain⟨pl,h1,h2⟩:=b.hr.ob k _ hg
 rw[a]at h1
 cases h1
 exact h2
theorem gH (b:Mem C n h lim s) {k e2 ty:Nat} {g:Bool} {rows:List (List PV)} (hg:hget h k=some (.lst ty e2 g rows)) (a:C k=some .nil):rows=[]:=by
 obtain⟨pl,h1,h2⟩:=b.hr.ob k _ hg
 rw[a]at h1
 cases h1
 exact h2
theorem aV1 (f:Mem C n h lim s) {k id ver e len:Nat} {es:List (PV×PV)} (hg:hget h k=some (.mp es)) (d:C k=some (.atp id ver e len)):lim<=id/\∃es',Sim.look s.h id=some (.map es')/\EM es es':=by
 obtain⟨pl,h1,h2⟩:=f.hr.ob k _ hg
 rw[d]at h1
 cases h1
 obtain⟨a,b,c⟩:=h2
 exact⟨a,c⟩
theorem yJ {y:AV} {d e:Nat} {rows:List (List PV)} (h:RV C (.zs d e rows) y):RZ C.z d (.is e rows) y:=by
 cases h with
 |cl h=>cases h
 |zs h=>exact h
theorem jV1 {y:AV} {es:List (PV×PV)} (h:RV C (.zm es) y):(∃id es',y=.map id/\C.z id=some (.map es')/\EM es es')\/(es=[]/\y=.v (.map none)):=by
 cases h with
 |cl h=>cases h
 |zm h he=>exact .inl ⟨_,_,rfl,h,he⟩
 |zm0=>exact .inr ⟨rfl,rfl⟩
theorem tB (b:Mem C n h lim s) {k id ver e len e2 ty dp:Nat} {rows:List (List PV)} (hg:hget h k=some (.lz ty e2 dp rows)) (a:C k=some (.atp id ver e len)):lim<=id/\id<s.n/\e=e2/\len=rows.length/\isFx ty=false/\∃els,Sim.look s.h id=some (.arr false ty e2 ver els)/\RRz C.z dp rows els:=by
 obtain⟨pl,h1,h2⟩:=b.hr.ob k _ hg
 rw[a]at h1
 cases h1
 exact h2
theorem pF (b:Mem C n h lim s) {k e2 ty dp:Nat} {rows:List (List PV)} (hg:hget h k=some (.lz ty e2 dp rows)) (a:C k=some .nil):rows=[]:=by
 obtain⟨pl,h1,h2⟩:=b.hr.ob k _ hg
 rw[a]at h1
 cases h1
 exact h2
theorem jW1 {p:Bool} {e:Nat} {rows:List (List PV)} {y:AV} (h:RC p (.is e rows) y):(∃rows',y=.is e rows'/\RR rows rows')\/(rows=[]/\y=.v (.slice none 0 0)):=by
 cases h with
 |is a b c=>exact .inl ⟨_,rfl,.of_is a b c⟩
 |isn=>exact .inr ⟨rfl,rfl⟩
theorem yK {z:Nat->Option AO} {d e:Nat} {rows:List (List PV)} {y:AV} (h:RZ z d (.is e rows) y):
  ((∃rows',y=.is e rows'/\RR rows rows')\/(rows=[]/\y=.v (.slice none 0 0)))\/∃c id ver ty els,d=c+1/\y=.sl e id ver 0 rows.length none/\z id=some (.arr false ty e ver els)/\rows.length<=els.length/\RRz z c rows (els.take rows.length):=by
 cases d with
 |zero=>exact .inl (jW1 h)
 |succ d=>
  rcases h with h|⟨e',rows',id,ver,ty,els,h1,h2,h3,h4,h5⟩
  .exact .inl (jW1 h)
  .cases h1
   refine .inr ⟨d,id,ver,ty,els,rfl,h2,h3,h4,by simp[Nat.min_eq_left h4],fun i r r' a b=>h5 i r r' a ?_⟩
   rw[mS1]at b
   split at b
   .exact b
   .cases b
theorem aW1 {rows:List (List PV)} {els:List (List AV)} (hr:RR rows (els.take rows.length)) {i:Nat} {row:List PV} (hi:rows[i]? =some row):∃a,els[i]? =some a/\LR (RC true) row a:=by
 obtain⟨a,h1,h2⟩:=hr.get hi
 have b:i<rows.length:=(lX1.1 hi).1
 rw[mS1,mA1 b]at h1
 exact⟨a,h1,h2⟩
def yL (C:Cx) (n:Nat) (h:Heap) (s:Hp) (k:OpK) (ys:List AV) (K:PV->Heap->Nat->Option R) (r:R):Prop:=∃v y,(∀lim nS,doOp (Sim.look s.h) lim nS k ys=some {v:=y})/\RV C v y/\K v h n=some r
theorem vE {k:OpK} {v:PV} {y:AV} (hd:∀lim nS,doOp (Sim.look s.h) lim nS k ys=some {v:=y}) (hv:RV C v y) (hK:K v h n=some r):yL C n h s k ys K r:=⟨v,y,hd,hv,hK⟩
theorem yL.step (d:Mem C n h lim s) {k:OpK} (h1:yL C n h s k ys K r):cA C n h lim s k ys K r:=by
 obtain⟨v,y,a,b,c⟩:=h1
 exact aQ d (a _ _) b c
theorem pG (l:Mem C n h lim s) (B:LR (RV C) xs ys) (hk:bP .loadS xs h n K=some r):yL C n h s .loadS ys K r:=by
 rcases xs with _|⟨x,_|⟨x2,t⟩⟩
 .exact aB hk
 .obtain ⟨y,_,rfl,h1,h2⟩:=B.inv_cons
  rw[h2.inv_nil]
  cases x with
  |ref k o=>
   have hk:hK h k (fun ob=>match ob with
    |.box cs=>dQ o cs fun cs=>match cs with
     |c::_=>K c h n
     |[]=>none
    |_=>none)=some r:=hk
   rw[dA,lT1]at hk
   obtain⟨ob,hg,hk⟩:=hk
   cases ob with
   |box cs=>
    obtain⟨D,a⟩:=bK _ _ _ _ hk
    obtain⟨id,ver,e,len,d,rfl⟩:=fP h1
    obtain⟨_,ty,esz,row,j,hl⟩:=nL l hg d
    cases hd:cs.drop o with
    |nil=>rw[hd]at a;exact aB a
    |cons c t=>
     rw[hd]at a
     obtain⟨y,hy,hv⟩:=hl.get (jZ hd)
     exact vE (fun lim nS=>by simp[doOp,j,hy]) hv a
   |_=>exact aB hk
  |ip cs=>
   obtain⟨cs',rfl,hl⟩:=vC h1
   cases cs with
   |nil=>exact aB hk
   |cons c t=>
    obtain⟨y,q,rfl,hv,_⟩:=hl.inv_cons
    exact vE (fun _ _=>rfl) (.cl hv) hk
  |el k i o=>
   have hk:hK h k (fun ob=>match ob with
    |.lst _ _ _ rows=>bC (sP rows i o) fun c=>K c h n
    |.fl fs=>bif Nat.beq o 0 then(dQ i fs fun fs=>match fs with
     |f::_=>K f h n
     |[]=>none)else none
    |_=>none)=some r:=hk
   rw[dA,lT1]at hk
   obtain⟨ob,hg,hk⟩:=hk
   cases ob with
   |lst ty e2 g rows=>
    simp only[aU,lT1,sP]at hk
    obtain⟨c,⟨row,hi,A⟩,hk⟩:=hk
    obtain⟨id,ver,e,len,d,rfl⟩:=vD h1
    obtain⟨_,rfl,_,els,j,hr,_⟩:=eU l hg d
    obtain⟨v,m,hl⟩:=aW1 hr hi
    obtain⟨y,hy,hv⟩:=hl.get A
    exact vE (fun lim nS=>by simp[doOp,j,m,hy]) (.cl hv.weak) hk
   |fl fs=>
    simp only[aS]at hk
    by_cases u:o=0
    .subst u
     rw[mY1 rfl,mF1]at hk
     obtain⟨D,a⟩:=bK _ _ _ _ hk
     obtain⟨id,ver,e,len,d,rfl⟩:=vD h1
     obtain⟨_,_,_,ty,els,j,hlen,hr⟩:=hK1 l hg d
     cases hd:fs.drop i with
     |nil=>rw[hd]at a;exact aB a
     |cons c t=>
      rw[hd]at a
      have hi:=jZ hd
      have w:=(lX1.1 hi).1
      obtain⟨y,q,b,hv,z⟩:=(hr i c (els[i]'(by omega)) hi (by simp)).inv_cons
      rw[z.inv_nil]at b
      have p:els[i]? =some [y]:=by rw[<-b];simp
      exact vE (fun lim nS=>by simp[doOp,j,p]) hv a
    .rw [mK1 u]at hk;exact aB hk
   |_=>exact aB hk
  |_=>exact aB hk
 .exact aB hk
theorem pH {m:Nat} (w:Mem C n h lim s) (B:LR (RV C) xs ys) (hk:bP (.loadA m) xs h n K=some r):yL C n h s (.loadA m) ys K r:=by
 rcases xs with _|⟨x,_|⟨x2,t⟩⟩
 .exact aB hk
 .obtain ⟨y,_,rfl,h1,h2⟩:=B.inv_cons
  rw[h2.inv_nil]
  cases x with
  |ref k o=>
   have hk:hK h k (fun ob=>match ob with
    |.box cs=>dQ o cs fun cs=>kP m cs fun cs=>K (.agg cs) h n
    |_=>none)=some r:=hk
   rw[dA,lT1]at hk
   obtain⟨ob,hg,hk⟩:=hk
   cases ob with
   |box cs=>
    obtain⟨E,D⟩:=bK _ _ _ _ hk
    obtain⟨u,v⟩:=fN _ _ _ _ D
    obtain⟨id,ver,e,len,f,rfl⟩:=fP h1
    obtain⟨_,ty,esz,row,l,hl⟩:=nL w hg f
    have hlen:=hl.1
    simp only[List.length_drop]at u
    have d:=(hl.drop o).take m
    exact vE (fun lim nS=>by simp[doOp,l];omega) (.agg d.1 d.2) v
   |_=>exact aB hk
  |ip cs=>
   obtain⟨cs',rfl,hl⟩:=vC h1
   have hk:kP m cs (fun cs=>K (.agg cs) h n)=some r:=hk
   obtain⟨u,v⟩:=fN _ _ _ _ hk
   have d:=hl.take m
   refine vE (fun lim nS=>?_) (.cl (.agg d.1 d.2)) v
   simp only[doOp]
   rw[mA1 (by rw[<-hl.1];exact u)]
  |el k i o=>
   have hk:hK h k (fun ob=>match ob with
    |.lst _ _ _ rows=>bC (nA rows i o m) fun cs=>K (.agg cs) h n
    |_=>none)=some r:=hk
   rw[dA,lT1]at hk
   obtain⟨ob,hg,hk⟩:=hk
   cases ob with
   |lst ty e2 g rows=>
    simp only[aU,lT1,nA]at hk
    obtain⟨c,⟨row,hi,q⟩,hk⟩:=hk
    split at q
    .rename_i A
     cases q
     obtain⟨id,ver,e,len,f,rfl⟩:=vD h1
     obtain⟨_,rfl,_,els,l,hr,_⟩:=eU w hg f
     obtain⟨z,p,hl⟩:=aW1 hr hi
     have d:=(hl.drop o).take m
     have hlen:=hl.1
     exact vE (fun lim nS=>by simp[doOp,l,p];omega) (.cl (.agg d.1 fun j x y a b=>(d.2 j x y a b).weak)) hk
    .cases q
   |_=>exact aB hk
  |_=>exact aB hk
 .exact aB hk
theorem eD1 (a:Mem C n h lim s) (b:LR (RV C) xs ys) (hk:bP .loadS xs h n K=some r):cA C n h lim s .loadS ys K r:=(pG a b hk).step a
theorem eE1 {m:Nat} (a:Mem C n h lim s) (b:LR (RV C) xs ys) (hk:bP (.loadA m) xs h n K=some r):cA C n h lim s (.loadA m) ys K r:=(pH a b hk).step a
theorem eF1 {m:Nat} (y:Mem C n h lim s) (S:LR (RV C) xs ys) (hk:bP (.store m) xs h n K=some r):cA C n h lim s (.store m) ys K r:=by
 rcases xs with _|⟨p,_|⟨x,_|⟨x2,t⟩⟩⟩
 .exact aB hk
 .exact aB hk
 .obtain ⟨V,_,rfl,h1,h2⟩:=S.inv_cons
  obtain⟨W,_,rfl,N,P⟩:=h2.inv_cons
  rw[P.inv_nil]
  cases p with
  |ref k o=>
   have hk:hK h k (fun ob=>match ob with
    |.box cs=>iR x fun ys=>bif Nat.beq ys.length m then setK cs o ys fun cs=>eM h k (.box cs) fun h=>K .undef h n else none
    |_=>none)=some r:=hk
   rw[dA,lT1]at hk
   obtain⟨ob,hg,hk⟩:=hk
   cases ob with
   |box cs=>
    simp only[fO,lT1]at hk
    obtain⟨zs,w,hk⟩:=hk
    obtain⟨c,u,d⟩:=jY N w
    rw[aS]at hk
    by_cases M:zs.length=m
    .rw [mY1 M,mF1]at hk
     obtain⟨U,T⟩:=dX _ _ _ _ _ hk
     have G:=bS _ _ _ _ _ T
     obtain⟨id,ver,e,len,j,rfl⟩:=fP h1
     obtain⟨b,ty,esz,row,z,hl⟩:=nL y hg j
     have l:=(y.hr.lt (by rw[hg];simp) j).2
     obtain⟨H,J⟩:=nK y (po':=.box (Sim.setL cs o zs)) (ao:=.arr true ty esz ver [Sim.setL row o c]) hg j ⟨b,l,ty,esz,_,by rw[Sim.look_upd];simp[z],hl.setL d o⟩ rfl
     have hlen:=hl.1
     have q:=d.1
     refine⟨_,_,_,_,{v:=.undef,up:=some (id,.arr true ty esz ver [Sim.setL row o c])},G,?_,.undef,H,.refl _,lW1 _,J,fun he=>by cases he⟩
     simp only[doOp,u,z]
     rw[mA1 ⟨by trivial,b,by omega⟩]
     simp only[oA1]
     rw[mA1 (by omega)]
     rfl
    .rw [mK1 M]at hk;exact aB hk
   |_=>exact aB hk
  |el k i o=>
   have hk:hK h k (fun ob=>match ob with
    |.lst ty e g rows=>iR x fun ys=>bif Nat.beq ys.length m&&ys.all cW then bC (sO rows i o ys) fun rows=>eM h k (.lst ty e g rows) fun h=>K .undef h n else none
    |_=>none)=some r:=hk
   rw[dA,lT1]at hk
   obtain⟨ob,hg,hk⟩:=hk
   cases ob with
   |lst ty e2 g rows=>
    simp only[fO,lT1]at hk
    obtain⟨zs,w,hk⟩:=hk
    obtain⟨c,u,d⟩:=jY N w
    by_cases hc:(Nat.beq zs.length m&&zs.all cW)=true
    .rw [hc,mF1,aU,lT1]at hk
     simp only[lU1,aS,mU1]at hc
     obtain⟨L,a,hk⟩:=hk
     have G:=bS _ _ _ _ _ hk
     unfold sO at a
     split at a
     .rename_i row hi
      split at a
      .rename_i R
       cases a
       obtain⟨id,ver,e,len,j,rfl⟩:=vD h1
       obtain⟨b,rfl,hlen,els,z,hr,A,B⟩:=eU y hg j
       have l:=(y.hr.lt (by rw[hg];simp) j).2
       obtain⟨f,D,hl⟩:=aW1 hr hi
       have O:i<rows.length:=(lX1.1 hi).1
       have F:=d.plain hc.2
       obtain⟨H,J⟩:=nK y (po':=.lst ty e g (rows.set i (Sim.setL row o zs))) (ao:=.arr false (rty ty) e ver (els.set i (Sim.setL f o c))) hg j
        ⟨b,l,rfl,by simpa using hlen,els.set i (Sim.setL f o c),by rw[Sim.look_upd];simp[z],by
         rw[List.length_set,List.take_set]
         exact hr.set (hl.setL F o) i,by simpa using A,by simpa using B⟩ rfl
       have E:=hl.1
       have q:=d.1
       refine⟨_,_,_,_,{v:=.undef,up:=some (id,.arr false (rty ty) e ver (els.set i (Sim.setL f o c)))},G,?_,.undef,H,.refl _,lW1 _,J,fun he=>by cases he⟩
       simp only[doOp,u,z]
       rw[mA1 ⟨by trivial,b,by omega⟩,D]
       simp only
       rw[mA1 (by omega)]
      .cases a
     .cases a
    .simp only[nX1]at hc
     rw[hc]at hk;exact aB hk
   |_=>exact aB hk
  |_=>exact aB hk
 .exact aB hk
theorem jX1 {off:Nat} (b:Mem C n h lim s) (d:LR (RV C) xs ys) (hk:bP (.fad off) xs h n K=some r):cA C n h lim s (.fad off) ys K r:=by
 rcases xs with _|⟨x,_|⟨x2,t⟩⟩
 .exact aB hk
 .obtain ⟨y,_,rfl,h1,h2⟩:=d.inv_cons
  rw[h2.inv_nil]
  cases x with
  |ref k o=>
   obtain⟨id,ver,e,len,a,rfl⟩:=fP h1
   exact aQ b rfl (.ref a) hk
  |ip cs=>
   have hk:dQ off cs (fun cs=>K (.ip cs) h n)=some r:=hk
   obtain⟨g,f⟩:=bK _ _ _ _ hk
   obtain⟨cs',rfl,hl⟩:=vC h1
   have c:=hl.drop off
   exact aQ b rfl (.cl (.ip c.1 c.2)) f
  |el k i o=>
   obtain⟨id,ver,e,len,a,rfl⟩:=vD h1
   exact aQ b rfl (.el a) hk
  |_=>exact aB hk
 .exact aB hk
end
end Go.P
namespace Go.P
open Go.Sim (AV AO Hp Ent upd St IC IX Ex OpK CK Wf Out doOp)
section
variable {R:Type} {C:Cx} {n:Nat} {h:Heap} {lim:Nat} {s:Hp} {k:OpK} {xs:List PV} {ys:List AV} {K:PV->Heap->Nat->Option R} {r:R}
theorem jY1 {e:Nat} (l:Mem C n h lim s) (B:LR (RV C) xs ys) (hk:bP (.iad e) xs h n K=some r):cA C n h lim s (.iad e) ys K r:=by
 rcases xs with _|⟨x,_|⟨i,_|⟨x2,t⟩⟩⟩
 .exact aB hk
 .exact aB hk
 .obtain ⟨D,_,rfl,h1,h2⟩:=B.inv_cons
  obtain⟨E,_,rfl,z,A⟩:=h2.inv_cons
  rw[A.inv_nil]
  cases i with
  |v iv=>
   cases iv with
   |int kk i=>
    rw[rv_v z]
    cases x with
    |is e' rows=>
     have hk:(bif Nat.beq e' e then bC (oZ rows i) (fun row=>K (.ip row) h n)else none)=some r:=hk
     rw[aS]at hk
     by_cases f:e'=e
     .subst f
      simp only[oR1,mF1,aU,lT1,oZ]at hk
      obtain⟨row,c,hk⟩:=hk
      split at c
      .rename_i h0
       rcases eA1 h1 with⟨rows',rfl,hr⟩|⟨rfl,_⟩
       .obtain ⟨u,q,hl⟩:=hr.get c
        exact aQ l (by simp[doOp,Sim.intOf,h0,q]) (.cl (.ip hl.1 fun j x y a b=>(hl.2 j x y a b).weak)) hk
       .simp at c
      .cases c
     .rw [mK1 f]at hk;exact aB hk
    |own k=>
     have hk:hK h k (fun ob=>match ob with
      |.lst _ e' _ rows=>bif Nat.beq e' e then bC (uY rows.length i) (fun i=>K (.el k i 0) h n)else none
      |.fl fs=>bif Nat.beq e 1 then natK i (fun i=>bif Nat.blt i fs.length then K (.el k i 0) h n else none)else none
      |_=>none)=some r:=hk
     rw[dA,lT1]at hk
     obtain⟨ob,hg,hk⟩:=hk
     cases ob with
     |lst ty e2 g rows=>
      simp only[aS]at hk
      by_cases f:e2=e
      .subst f
       simp only[oR1,mF1,aU,lT1,uY]at hk
       obtain⟨m,p,o⟩:=hk
       split at p
       .rename_i h0
        cases p
        rcases eN h1 with⟨id,ver,w,len,d,rfl⟩|⟨d,_⟩
        .obtain ⟨_,rfl,hlen,_⟩:=eU l hg d
         refine aQ (v:=.el k i.toNat 0) (y:=.ptr id ver i.toNat 0) l ?_ (.el d) o
         simp only[doOp,Sim.intOf]
         rw[mA1 ⟨by trivial,h0.1,by omega⟩,nO1]
        .have:=gH l hg d
         subst this
         simp at h0
         omega
       .cases p
      .rw [mK1 f]at hk;exact aB hk
     |fl fs=>
      simp only[aS]at hk
      by_cases f:e=1
      .subst f
       rw[mY1 rfl,mF1]at hk
       cases i with
       |negSucc m=>exact aB hk
       |ofNat m=>
        cases hlt:Nat.blt m fs.length with
        |false=>simp only[natK,hlt,mT1]at hk;exact aB hk
        |true=>
         simp only[natK,hlt,mF1]at hk
         rw[nU1]at hlt
         rcases eN h1 with⟨id,ver,w,len,d,rfl⟩|⟨d,_⟩
         .obtain ⟨_,rfl,hlen,_⟩:=hK1 l hg d
          refine aQ (v:=.el k m 0) (y:=.ptr id ver m 0) l ?_ (.el d) hk
          simp only[doOp,Sim.intOf]
          rw[mA1 ⟨by trivial,by simp,by simp;omega⟩,nO1]
          rfl
         .exact (fY1 l hg d).elim
      .rw [mK1 f]at hk;exact aB hk
     |_=>exact aB hk
    |_=>exact aB hk
   |_=>exact aB hk
  |_=>exact aB hk
 .exact aB hk
theorem hL1 {off:Nat} (b:Mem C n h lim s) (d:LR (RV C) xs ys) (hk:bP (.fldS off) xs h n K=some r):cA C n h lim s (.fldS off) ys K r:=by
 rcases xs with _|⟨x,_|⟨x2,t⟩⟩
 .exact aB hk
 .obtain ⟨y,_,rfl,h1,h2⟩:=d.inv_cons
  rw[h2.inv_nil]
  cases x with
  |agg cs=>
   have hk:dQ off cs (fun cs=>match cs with
    |c::_=>K c h n
    |[]=>none)=some r:=hk
   obtain⟨e,a⟩:=bK _ _ _ _ hk
   obtain⟨cs',rfl,hl⟩:=gK h1
   cases hd:cs.drop off with
   |nil=>rw[hd]at a;exact aB a
   |cons c t=>
    rw[hd]at a
    obtain⟨y,hy,hv⟩:=hl.get (jZ hd)
    exact aQ b (by simp[doOp,hy]) hv a
  |_=>exact aB hk
 .exact aB hk
theorem hO1 {off m:Nat} (b:Mem C n h lim s) (c:LR (RV C) xs ys) (hk:bP (.fldA off m) xs h n K=some r):cA C n h lim s (.fldA off m) ys K r:=by
 rcases xs with _|⟨x,_|⟨x2,t⟩⟩
 .exact aB hk
 .obtain ⟨y,_,rfl,h1,h2⟩:=c.inv_cons
  rw[h2.inv_nil]
  cases x with
  |agg cs=>
   have hk:dQ off cs (fun cs=>kP m cs fun cs=>K (.agg cs) h n)=some r:=hk
   obtain⟨f,d⟩:=bK _ _ _ _ hk
   obtain⟨g,e⟩:=fN _ _ _ _ d
   obtain⟨cs',rfl,hl⟩:=gK h1
   have a:=(hl.drop off).take m
   exact aQ b rfl (.agg a.1 a.2) e
  |_=>exact aB hk
 .exact aB hk
theorem aX1 (e:Mem C n h lim s) (f:LR (RV C) xs ys) (hk:bP .idxStr xs h n K=some r):cA C n h lim s .idxStr ys K r:=by
 rcases xs with _|⟨x,_|⟨i,_|⟨x2,t⟩⟩⟩
 .exact aB hk
 .exact aB hk
 .obtain ⟨j,_,rfl,h1,h2⟩:=f.inv_cons
  obtain⟨k,_,rfl,c,d⟩:=h2.inv_cons
  rw[d.inv_nil]
  cases x with
  |v xv=>
   cases xv with
   |string b=>
    cases i with
    |v iv=>
     cases iv with
     |int kk i=>
      rw[rv_v h1,rv_v c]
      have hk:bC (pA b i) (fun b=>K (.v (.int .u8 b)) h n)=some r:=hk
      simp only[aU,lT1,pA]at hk
      obtain⟨m,a,hk⟩:=hk
      split at a
      .rename_i h0
       simp only[lV1]at a
       obtain⟨g,hb,rfl⟩:=a
       refine aQ e ?_ (.cl (.v _)) hk
       simp only[doOp,Sim.intOf]
       rw[mA1 h0,hb]
      .cases a
     |_=>exact aB hk
    |_=>exact aB hk
   |_=>cases i with
    |v iv=>cases iv<;>exact aB hk
    |_=>exact aB hk
  |_=>cases i with
   |v iv=>cases iv<;>exact aB hk
   |_=>exact aB hk
 .exact aB hk
theorem hP1 {len e:Nat} {agg:Bool} (b:Mem C n h lim s) (j:LR (RV C) xs ys) (hk:bP (.idxA len e agg) xs h n K=some r):cA C n h lim s (.idxA len e agg) ys K r:=by
 rcases xs with _|⟨x,_|⟨i,_|⟨x2,t⟩⟩⟩
 .exact aB hk
 .exact aB hk
 .obtain ⟨k,_,rfl,h1,h2⟩:=j.inv_cons
  obtain⟨l,_,rfl,f,g⟩:=h2.inv_cons
  rw[g.inv_nil]
  cases x with
  |agg cs=>
   obtain⟨cs',rfl,hl⟩:=gK h1
   cases i with
   |v iv=>
    cases iv with
    |int kk i=>
     rw[rv_v f]
     have hk:(bif agg then bC (jU cs i len e) (fun cs=>K (.agg cs) h n)else bC (nB cs i len e) fun c=>K c h n)=some r:=hk
     cases agg with
     |true=>
      simp only[mF1,aU,lT1,jU]at hk
      obtain⟨q,a,hk⟩:=hk
      split at a
      .rename_i h0
       cases a
       have d:=(hl.drop (i.toNat*e)).take e
       refine aQ b ?_ (.agg d.1 d.2) hk
       simp only[doOp,Sim.intOf]
       rw[mA1 ⟨h0.1,h0.2.1⟩]
       rfl
      .cases a
     |false=>
      simp only[mT1,aU,lT1,nB]at hk
      obtain⟨q,a,hk⟩:=hk
      split at a
      .rename_i h0
       obtain⟨y,hy,hv⟩:=hl.get a
       refine aQ b ?_ hv hk
       simp only[doOp,Sim.intOf]
       rw[mA1 h0]
       simp[hy]
      .cases a
    |_=>exact aB hk
   |_=>exact aB hk
  |_=>cases i with
   |v iv=>cases iv<;>exact aB hk
   |_=>exact aB hk
 .exact aB hk
theorem aY1 {op:BinOp} {x y:PV} {K:PV->Option R} {r:R} (hk:binK op x y K=some r):∃a b c,x=.v a/\y=.v b/\Sim.binS op a b=some c/\K (.v c)=some r:=by
 cases x with
 |v a=>
  cases y with
  |v b=>
   cases a with
   |int k a=>
    cases b with
    |int k' b=>
     have key:∀{z:Option R} {w:Option Value},(op≠.shl/\op≠.shr)->(binK op (.v (.int k a)) (.v (.int k' b)) K=bif kEq k k' then z else none)->(Sim.binS op (.int k a) (.int k' b)=if k=k' then w else none)->(z=some r->∃c,w=some c/\K (.v c)=some r)->∃a' b' c,PV.v (.int k a)=.v a'/\PV.v (.int k' b)=.v b'/\Sim.binS op a' b'=some c/\K (.v c)=some r:=by
      intro z w _ f e2 g
      rw[f,vB]at hk
      by_cases e:k=k'
      .rw [mY1 e,mF1]at hk
       obtain⟨c,i,j⟩:=g hk
       exact⟨_,_,c,rfl,rfl,by rw[e2,mA1 e];exact i,j⟩
      .rw [mK1 e]at hk;exact aB hk
     cases op
     case shl=>
      have hk:bC (if b<0 then none else some (k.wrap (a*2^min b.toNat k.bits))) (fun r=>K (.v (.int k r)))=some r:=hk
      simp only[aU,lT1]at hk
      obtain⟨q,d,hk⟩:=hk
      split at d
      .cases d
      .rename_i h0
       cases d
       exact⟨_,_,_,rfl,rfl,by simp only[Sim.binS];rw[lY1 h0],hk⟩
     case shr=>
      have hk:bC (if b<0 then none else some (a.fdiv (2^min b.toNat k.bits))) (fun r=>K (.v (.int k r)))=some r:=hk
      simp only[aU,lT1]at hk
      obtain⟨q,d,hk⟩:=hk
      split at d
      .cases d
      .rename_i h0
       cases d
       exact⟨_,_,_,rfl,rfl,by simp only[Sim.binS];rw[lY1 h0],hk⟩
     case add=>exact key (by simp) rfl rfl (fun h=>⟨_,rfl,h⟩)
     case sub=>exact key (by simp) rfl rfl (fun h=>⟨_,rfl,h⟩)
     case mul=>exact key (by simp) rfl rfl (fun h=>⟨_,rfl,h⟩)
     case and=>exact key (by simp) rfl rfl (fun h=>⟨_,rfl,h⟩)
     case or=>exact key (by simp) rfl rfl (fun h=>⟨_,rfl,h⟩)
     case xor=>exact key (by simp) rfl rfl (fun h=>⟨_,rfl,h⟩)
     case andNot=>exact key (by simp) rfl rfl (fun h=>⟨_,rfl,h⟩)
     case eql=>exact key (by simp) rfl rfl (fun h=>⟨_,rfl,h⟩)
     case neq=>exact key (by simp) rfl rfl (fun h=>⟨_,rfl,h⟩)
     case lss=>exact key (by simp) rfl rfl (fun h=>⟨_,rfl,h⟩)
     case leq=>exact key (by simp) rfl rfl (fun h=>⟨_,rfl,h⟩)
     case gtr=>exact key (by simp) rfl rfl (fun h=>⟨_,rfl,h⟩)
     case geq=>exact key (by simp) rfl rfl (fun h=>⟨_,rfl,h⟩)
     case quo=>exact key (z:=bC (if b=0 then none else some (k.wrap (a.tdiv b))) fun r=>K (.v (.int k r))) (by simp) rfl rfl (fun h=>by
      simp only[aU,lT1]at h
      obtain⟨q,d,h⟩:=h
      split at d
      .cases d
      .rename_i h0;cases d;exact⟨_,by rw[lY1 h0],h⟩)
     case rem=>exact key (z:=bC (if b=0 then none else some (a.tmod b)) fun r=>K (.v (.int k r))) (by simp) rfl rfl (fun h=>by
      simp only[aU,lT1]at h
      obtain⟨q,d,h⟩:=h
      split at d
      .cases d
      .rename_i h0;cases d;exact⟨_,by rw[lY1 h0],h⟩)
     all_goals (first|exact aB hk|exact key (z:=none) (w:=none) (by simp) rfl rfl (fun h=>aB h))
    |_=>exact aB hk
   |string a=>
    cases b with
    |string b=>
     cases op
     case add=>
      have hk:bC (if a.size+b.size<=2^62 then some (a++b)else none) (fun r=>K (.v (.string r)))=some r:=hk
      simp only[aU,lT1]at hk
      obtain⟨q,d,hk⟩:=hk
      split at d
      .rename_i h0
       cases d
       exact⟨_,_,_,rfl,rfl,by simp only[Sim.binS];rw[mA1 h0],hk⟩
      .cases d
     all_goals first|exact aB hk|exact⟨_,_,_,rfl,rfl,rfl,hk⟩
    |_=>exact aB hk
   |_=>exact aB hk
  |_=>exact aB hk
 |_=>exact aB hk
theorem jZ1 {op:BinOp} (f:Mem C n h lim s) (g:LR (RV C) xs ys) (hk:bP (.bin op) xs h n K=some r):cA C n h lim s (.bin op) ys K r:=by
 rcases xs with _|⟨x,_|⟨i,_|⟨x2,t⟩⟩⟩
 .exact aB hk
 .exact aB hk
 .obtain ⟨j,_,rfl,h1,h2⟩:=g.inv_cons
  obtain⟨k,_,rfl,d,e⟩:=h2.inv_cons
  rw[e.inv_nil]
  obtain⟨a,b,c,rfl,rfl,hb,hk⟩:=aY1 (K:=fun v=>K v h n) hk
  rw[rv_v h1,rv_v d]
  exact aQ f (by simp[doOp,hb]) (.cl (.v c)) hk
 .exact aB hk
theorem kA1 {neg:Bool} (e:Mem C n h lim s) (f:LR (RV C) xs ys) (hk:bP (.eqB neg) xs h n K=some r):cA C n h lim s (.eqB neg) ys K r:=by
 rcases xs with _|⟨x,_|⟨i,_|⟨x2,t⟩⟩⟩
 .exact aB hk
 .exact aB hk
 .obtain ⟨g,_,rfl,h1,h2⟩:=f.inv_cons
  obtain⟨j,_,rfl,c,d⟩:=h2.inv_cons
  rw[d.inv_nil]
  cases x with
  |v xv=>
   cases xv with
   |bool a=>
    cases i with
    |v iv=>
     cases iv with
     |bool b=>
      rw[rv_v h1,rv_v c]
      exact aQ e rfl (.cl (.v _)) hk
     |_=>exact aB hk
    |_=>exact aB hk
   |_=>cases i with
    |v iv=>cases iv<;>exact aB hk
    |_=>exact aB hk
  |_=>cases i with
   |v iv=>cases iv<;>exact aB hk
   |_=>exact aB hk
 .exact aB hk
theorem tC:∀(ks:List CK) (as i:List PV) (K:Bool->Option R) (r:R) (c d:List AV),eqCK ks as i K=some r->LR (RV C) as c->LR (RV C) i d->
  ∃b,Sim.cellsEq ks c d=some b/\K b=some r/\c.length=ks.length/\d.length=ks.length
 |[],[],[],K,r,c,d,h,ha,hb=>by
  rw[ha.inv_nil,hb.inv_nil]
  exact⟨true,rfl,h,rfl,rfl⟩
 |k::ks,a::as,b::i,K,r,c,d,h,ha,hb=>by
  obtain⟨y,ys,rfl,h1,h2⟩:=ha.inv_cons
  obtain⟨z,zs,rfl,l,m⟩:=hb.inv_cons
  simp only[eqCK]at h
  obtain⟨t,p,f,s,u⟩:=tC ks as i _ r ys zs h h2 m
  have fin:∀q:Bool,Sim.cellEq k y z=some q->K (q&&t)=some r->∃b,Sim.cellsEq (k::ks) (y::ys) (z::zs)=some b/\K b=some r/\(y::ys).length=(k::ks).length/\(z::zs).length=(k::ks).length:=by
   intro q n hK
   refine⟨q&&t,?_,hK,by simp[s],by simp[u]⟩
   simp only[Sim.cellsEq,n]
   cases q
   .rfl
   .simpa using p
  split at f
  .rename_i j x o g
   rw[vB]at f
   by_cases e:j=o
   .rw [mY1 e,mF1]at f
    rw[rv_v h1,rv_v l]at fin ⊢
    exact fin (x==g) (by simp[Sim.cellEq,e]) f
   .rw [mK1 e]at f;exact aB f
  .rename_i x g
   rw[rv_v h1,rv_v l]at fin ⊢
   exact fin (x==g) rfl f
  .rename_i x g
   rw[rv_v h1,rv_v l]at fin ⊢
   exact fin (x==g) rfl f
  .exact aB f
 |[],_::_,_,_,_,_,_,h,_,_=>aB h
 |[],[],_::_,_,_,_,_,h,_,_=>aB h
 |_::_,[],_,_,_,_,_,h,_,_=>aB h
 |_::_,_::_,[],_,_,_,_,h,_,_=>aB h
theorem kB1 {neg:Bool} {ks:List CK} (f:Mem C n h lim s) (j:LR (RV C) xs ys) (hk:bP (.eqA neg ks) xs h n K=some r):cA C n h lim s (.eqA neg ks) ys K r:=by
 rcases xs with _|⟨x,_|⟨i,_|⟨x2,t⟩⟩⟩
 .exact aB hk
 .exact aB hk
 .obtain ⟨p,_,rfl,h1,h2⟩:=j.inv_cons
  obtain⟨q,_,rfl,d,e⟩:=h2.inv_cons
  rw[e.inv_nil]
  cases x with
  |agg as=>
   cases i with
   |agg bs=>
    obtain⟨a,rfl,g⟩:=gK h1
    obtain⟨c,rfl,hb⟩:=gK d
    obtain⟨b,k,l,m,o⟩:=tC ks as bs _ r a c hk g hb
    refine aQ f ?_ (.cl (.v _)) l
    simp only[doOp]
    rw[mA1 ⟨m,o⟩,k]
   |_=>exact aB hk
  |_=>cases i<;>exact aB hk
 .exact aB hk
theorem lE1 {op:UnOp} (a:Mem C n h lim s) (b:LR (RV C) xs ys) (hk:bP (.un op) xs h n K=some r):cA C n h lim s (.un op) ys K r:=by
 rcases xs with _|⟨x,_|⟨x2,t⟩⟩
 .exact aB hk
 .obtain ⟨y,_,rfl,h1,h2⟩:=b.inv_cons
  rw[h2.inv_nil]
  cases x with
  |v xv=>
   rw[rv_v h1]
   cases op<;>cases xv<;>first|exact aB hk|exact aQ a rfl (.cl (.v _)) hk
  |_=>cases op<;>exact aB hk
 .exact aB hk
theorem eG1 {k:IntKind} (a:Mem C n h lim s) (b:LR (RV C) xs ys) (hk:bP (.convI k) xs h n K=some r):cA C n h lim s (.convI k) ys K r:=by
 rcases xs with _|⟨x,_|⟨x2,t⟩⟩
 .exact aB hk
 .obtain ⟨y,_,rfl,h1,h2⟩:=b.inv_cons
  rw[h2.inv_nil]
  cases x with
  |v xv=>
   rw[rv_v h1]
   cases xv<;>first|exact aB hk|exact aQ a rfl (.cl (.v _)) hk
  |_=>exact aB hk
 .exact aB hk
theorem eH1 (a:Mem C n h lim s) (b:LR (RV C) xs ys) (hk:bP .convS xs h n K=some r):cA C n h lim s .convS ys K r:=by
 rcases xs with _|⟨x,_|⟨x2,t⟩⟩
 .exact aB hk
 .obtain ⟨y,_,rfl,h1,h2⟩:=b.inv_cons
  rw[h2.inv_nil]
  cases x with
  |v xv=>
   rw[rv_v h1]
   cases xv<;>first|exact aB hk|exact aQ a rfl (.cl (.v _)) hk
  |_=>exact aB hk
 .exact aB hk
theorem vF (b:ByteArray):RR (byteRows b) (Sim.byteRows b):=by
 unfold byteRows Sim.byteRows
 induction b.data.toList with
 |nil=>exact .nil
 |cons a as ih=>exact .cons (.cons (.v _) .nil) ih
theorem kC1 {t:TypeId} (a:Mem C n h lim s) (c:LR (RV C) xs ys) (hk:bP (.s2b t) xs h n K=some r):cA C n h lim s (.s2b t) ys K r:=by
 rcases xs with _|⟨x,_|⟨x2,t⟩⟩
 .exact aB hk
 .obtain ⟨y,_,rfl,h1,h2⟩:=c.inv_cons
  rw[h2.inv_nil]
  cases x with
  |v xv=>
   rw[rv_v h1]
   cases xv with
   |string b=>exact aQ a rfl (.cl (vF b).is) hk
   |_=>exact aB hk
  |_=>exact aB hk
 .exact aB hk
theorem hQ1 {f:Fn} {m:Nat} (g:Mem C n h lim s) (e:LR (RV C) xs ys) (hk:bP (.mkfn f m) xs h n K=some r):cA C n h lim s (.mkfn f m) ys K r:=by
 cases f with
 |func f=>
  have hk:kP m xs (fun a=>dQ m xs fun b=>K (.fn f a b) h n)=some r:=by
   rcases xs with _|⟨a,_|⟨b,_|⟨c,t⟩⟩⟩<;>exact hk
  obtain⟨_,i⟩:=fN _ _ _ _ hk
  obtain⟨_,j⟩:=bK _ _ _ _ i
  have d:=e.take m
  have hb:=e.drop m
  refine aQ g ?_ (.fn d.1 hb.1 d.2 hb.2) j
  rcases ys with _|⟨a,_|⟨b,_|⟨c,t⟩⟩⟩<;>rfl
 |_=>rcases xs with _|⟨a,_|⟨b,_|⟨c,t⟩⟩⟩<;>exact aB hk
theorem eI1 (a:Mem C n h lim s) (c:LR (RV C) xs ys) (hk:bP .mkmap xs h n K=some r):cA C n h lim s .mkmap ys K r:=by
 rcases xs with _|⟨x,t⟩
 .have hk:K (.map n) ((n,.mp [])::h) (n+1)=some r:=hk
  rw[c.inv_nil]
  have b:=gJ a (.atp s.n 0 0 1)
  obtain⟨d,f,g⟩:=lG a (po:=.mp []) (ao:=.map []) (ver:=0) (e:=0) (len:=1) ⟨a.lim,by omega,[],by rw[bX,mA1 rfl],rfl,fun j x y h=>by simp at h⟩
  exact⟨_,_,_,_,{v:=.map s.n,new:=some (.map [])},hk,rfl,.map (iS C n _),d,b,by omega,f,fun _=>g⟩
 .exact aB hk
theorem hR1 {ty:TypeId} {e b:Nat} {zero:List Value} (d:Mem C n h lim s) (o:LR (RV C) xs ys) (hk:bP (.mksl ty e b zero) xs h n K=some r):cA C n h lim s (.mksl ty e b zero) ys K r:=by
 rcases xs with _|⟨x,_|⟨i,_|⟨x2,t⟩⟩⟩
 .exact aB hk
 .exact aB hk
 .obtain ⟨w,_,rfl,h1,h2⟩:=o.inv_cons
  obtain⟨y,_,rfl,k,m⟩:=h2.inv_cons
  rw[m.inv_nil]
  cases x with
  |v xv=>
   cases xv with
   |int k1 l=>
    cases i with
    |v iv=>
     cases iv with
     |int k2 c=>
      rw[rv_v h1,rv_v k]
      have hk:(bif isFx ty then none else fPVs (zero.map .v) (fun z=>bC (jW l c z) fun rows=>K (.own n) ((n,.lst ty e true rows)::h) (n+1)))=some r:=hk
      cases hfx:isFx ty with
      |true=>rw[hfx]at hk;exact aB hk
      |false=>
      rw[hfx,mT1]at hk
      have j:rty ty=ty:=by simp[rty,hfx]
      simp only[kS,aU,lT1,jW]at hk
      obtain⟨rows,g,hk⟩:=hk
      split at g
      .rename_i h0
       cases g
       have f:=gJ d (.atp s.n 0 e l.toNat)
       have a:l.toNat<=c.toNat:=by omega
       obtain⟨p,q,u⟩:=lG d (po:=.lst ty e true (List.replicate l.toNat (zero.map .v))) (ao:=.arr false ty e 0 (List.replicate c.toNat (Sim.zeroRow zero))) (ver:=0) (e:=e) (len:=l.toNat)
        ⟨d.lim,by omega,rfl,by simp,_,by rw[bX,mA1 rfl,j],by
         rw[List.length_replicate,List.take_replicate,Nat.min_eq_left a]
         exact RR.replicate (LR.zeroP zero) _,by simpa using a,fun h=>by cases h⟩
       refine⟨_,_,_,_,{v:=.sl e s.n 0 0 l.toNat none,new:=some (.arr false ty e 0 (List.replicate c.toNat (Sim.zeroRow zero)))},hk,?_,.own (iS C n _),p,f,by omega,q,fun _=>u⟩
       simp only[doOp,Sim.intOf]
       rw[mA1 h0]
      .cases g
     |_=>exact aB hk
    |_=>exact aB hk
   |_=>cases i with
    |v iv=>cases iv<;>exact aB hk
    |_=>exact aB hk
  |_=>cases i with
   |v iv=>cases iv<;>exact aB hk
   |_=>exact aB hk
 .exact aB hk
end
end Go.P
namespace Go.P
open Go.Sim (AV AO Hp Ent upd St IC IX Ex OpK CK Wf Out doOp)
section
variable {R:Type} {C:Cx} {n:Nat} {h:Heap} {lim:Nat} {s:Hp} {k:OpK} {xs:List PV} {ys:List AV} {K:PV->Heap->Nat->Option R} {r:R}
theorem eJ1 {neg:Bool} {kd:Nat} (k:Mem C n h lim s) (m:LR (RV C) xs ys) (hk:bP (.eqNil neg kd) xs h n K=some r):cA C n h lim s (.eqNil neg kd) ys K r:=by
 rcases xs with _|⟨x,_|⟨i,_|⟨x2,t⟩⟩⟩
 .exact aB hk
 .exact aB hk
 .obtain ⟨f,_,rfl,h1,h2⟩:=m.inv_cons
  obtain⟨g,_,rfl,d,j⟩:=h2.inv_cons
  rw[j.inv_nil]
  have key:∀(q:Nat) (b:Bool),(bif Nat.beq kd q then K (.v (.bool (b !=neg))) h n else none)=some r->(kd=q->∃a c,Sim.isNilv q f=some a/\Sim.isNilv q g=some c/\(c=true)/\b=a)->cA C n h lim s (.eqNil neg kd) [f,g] K r:=by
   intro q b hk l
   rw[aS]at hk
   by_cases e:kd=q
   .rw [mY1 e,mF1]at hk
    obtain⟨a,c,q1,q2,rfl,rfl⟩:=l e
    subst e
    refine aQ k ?_ (.cl (.v _)) hk
    simp only[doOp,q1,q2]
   .rw [mK1 e]at hk;exact aB hk
  unfold bP at hk
  simp only at hk
  split at hk
  .rw [rv_v h1,rv_v d]at key ⊢
   exact key 0 true hk (fun _=>⟨true,true,rfl,rfl,rfl,rfl⟩)
  .obtain ⟨id,ver,e,len,o,rfl⟩:=fP h1
   rw[rv_v d]at key ⊢
   exact key 1 false hk (fun _=>⟨false,true,rfl,rfl,rfl,rfl⟩)
  .obtain ⟨cs',rfl,_⟩:=vC h1
   rw[rv_v d]at key ⊢
   exact key 1 false hk (fun _=>⟨false,true,rfl,rfl,rfl,rfl⟩)
  .obtain ⟨a',b',rfl,_⟩:=qQ h1
   rw[rv_v d]at key ⊢
   exact key 3 false hk (fun _=>⟨false,true,rfl,rfl,rfl,rfl⟩)
  .exact aB hk
 .exact aB hk
theorem lH {lo hi:Bool} {len:Nat} {c:List PV} {K:Int->Int->Option R} {a:List AV} (b:LR (RV C) c a) (hk:kQ lo hi len c K=some r):∃l q,Sim.bounds lo hi len a=some (l,q)/\K l q=some r:=by
 unfold kQ at hk
 split at hk
 .rw [b.inv_nil];exact⟨_,_,rfl,hk⟩
 .obtain ⟨y,_,rfl,h1,h2⟩:=b.inv_cons
  rw[h2.inv_nil,rv_v h1]
  exact⟨_,_,rfl,hk⟩
 .obtain ⟨y,_,rfl,h1,h2⟩:=b.inv_cons
  rw[h2.inv_nil,rv_v h1]
  exact⟨_,_,rfl,hk⟩
 .obtain ⟨y,_,rfl,h1,h2⟩:=b.inv_cons
  obtain⟨f,_,rfl,d,e⟩:=h2.inv_cons
  rw[e.inv_nil,rv_v h1,rv_v d]
  exact⟨_,_,rfl,hk⟩
 .exact aB hk
theorem kD1 {e:Nat} {lo hi mx:Bool} (m:Mem C n h lim s) (o:LR (RV C) xs ys) (hk:bP (.slc e lo hi mx) xs h n K=some r):cA C n h lim s (.slc e lo hi mx) ys K r:=by
 rcases xs with _|⟨x,bs⟩
 .exact aB hk
 .obtain ⟨y,a,rfl,h1,h2⟩:=o.inv_cons
  have hk:(bif mx then none else match(generalizing:=false) x with
   |.is e' rows=>bif Nat.beq e' e then kQ lo hi rows.length bs (fun l r=>bC (iE rows l r) fun rows=>K (.is e rows) h n)else none
   |_=>none)=some r:=by
   rcases bs with _|⟨b,_|⟨c,t⟩⟩<;>exact hk
  cases mx with
  |true=>exact aB hk
  |false=>
   rw[mT1]at hk
   cases x with
   |is e' rows=>
    simp only[aS]at hk
    by_cases k:e'=e
    .subst k
     rw[mY1 rfl,mF1]at hk
     obtain⟨l,q,hb,hk⟩:=lH h2 hk
     simp only[aU,lT1,iE]at hk
     obtain⟨j,f,hk⟩:=hk
     split at f
     .rename_i h0
      cases f
      rcases tA h1 with⟨rows',rfl,hr⟩|⟨rfl,hy⟩
      .have hlen:=hr.1
       refine aQ m ?_ (.cl ((hr.drop l.toNat).take (q.toNat-l.toNat)).is) hk
       have d:Sim.bounds lo hi rows'.length a=some (l,q):=by rw[<-hlen];exact hb
       have:Sim.sliceOp (Sim.look s.h) e' lo hi false (.is e' rows'::a)=some (.is e' ((rows'.drop l.toNat).take (q.toNat-l.toNat))):=by
        simp only[Sim.sliceOp]
        simp only[mG1,nI1,d]
        rw[mA1 ⟨by trivial,h0.1,h0.2.1,by rw[<-hlen];exact h0.2.2⟩]
       rcases a with _|⟨b,_|⟨c,t⟩⟩<;>simp only[doOp,this,mQ1]
      .have g:l=0:=by simp at h0;omega
       have i:q=0:=by simp at h0;omega
       subst g;subst i
       have d:Sim.bounds lo hi 0 a=some (0,0):=hb
       have:Sim.sliceOp (Sim.look s.h) e' lo hi false (y::a)=some y:=by
        subst hy;simp[Sim.sliceOp,d]
       refine aQ (y:=y) m ?_ ?_ hk
       .rcases a with _|⟨b,_|⟨c,t⟩⟩<;>simp only[doOp,this,mQ1]
       .subst hy;exact .cl .isn
     .cases f
    .rw [mK1 k]at hk;exact aB hk
   |_=>exact aB hk
theorem aZ1 {lo hi:Bool} (e:Mem C n h lim s) (f:LR (RV C) xs ys) (hk:bP (.slcStr lo hi) xs h n K=some r):cA C n h lim s (.slcStr lo hi) ys K r:=by
 rcases xs with _|⟨x,bs⟩
 .exact aB hk
 .obtain ⟨y,d,rfl,h1,h2⟩:=f.inv_cons
  have hk:(match(generalizing:=false) x with
   |.v (.string b)=>kQ lo hi b.size bs (fun l r=>bC (qL b l r) fun b=>K (.v (.string b)) h n)
   |_=>none)=some r:=by
   rcases bs with _|⟨b,_|⟨c,t⟩⟩<;>exact hk
  cases x with
  |v xv=>
   cases xv with
   |string b=>
    rw[rv_v h1]
    obtain⟨l,q,hb,hk⟩:=lH h2 hk
    simp only[aU,lT1,qL]at hk
    obtain⟨b2,a,hk⟩:=hk
    split at a
    .rename_i h0
     cases a
     refine aQ e ?_ (.cl (.v _)) hk
     rcases d with _|⟨b,_|⟨c,t⟩⟩<;>(simp only[doOp,hb];rw[mA1 h0])
    .cases a
   |_=>exact aB hk
  |_=>exact aB hk
theorem tD {k:CK} {a b:PV} {a' b':AV} (c:RC false a a') (hb:RC false b b') {q:Bool} (h:nC k a b=some q):Sim.cellEq k a' b'=some q:=by
 unfold nC at h
 split at h
 .cases c;cases hb;exact h
 .cases c;cases hb;exact h
 .cases c;cases hb;exact h
 .cases h
theorem kT:∀{ks:List CK} {as e:List PV} {c d:List AV},LR (RC false) as c->LR (RC false) e d->∀{q:Bool},gG ks as e=some q->Sim.cellsEq ks c d=some q
 |[],[],[],c,d,ha,hb,q,h=>by rw[ha.inv_nil,hb.inv_nil];exact h
 |k::ks,a::as,b::e,c,d,ha,hb,q,h=>by
  obtain⟨y,ys,rfl,h1,h2⟩:=ha.inv_cons
  obtain⟨z,zs,rfl,f,g⟩:=hb.inv_cons
  simp only[gG]at h
  simp only[Sim.cellsEq]
  split at h
  .rename_i he;rw[tD h1 f he];exact kT h2 g h
  .rename_i he;rw[tD h1 f he];exact h
  .cases h
 |[],_::_,_,_,_,_,_,_,h=>by cases h
 |[],[],_::_,_,_,_,_,_,h=>by cases h
 |_::_,[],_,_,_,_,_,_,h=>by cases h
 |_::_,_::_,[],_,_,_,_,_,h=>by cases h
theorem bA1 {p:Bool} {cs:List PV} {y:AV} (h:RC p (.agg cs) y):∃cs',y=.agg cs'/\LR (RC false) cs cs':=by
 cases h with|agg a b=>exact⟨_,rfl,a,b⟩
theorem wO {agg:Bool} {ks:List CK} {a b:PV} {a' b':AV} (c:RC false a a') (hb:RC false b b') {q:Bool} (h:pB agg ks a b=some q):Sim.keyEq agg ks a' b'=some q:=by
 unfold pB at h
 unfold Sim.keyEq
 cases agg with
 |true=>
  simp only[mW1]at h ⊢
  split at h
  .obtain ⟨x,rfl,h1⟩:=bA1 c
   obtain⟨y,rfl,h2⟩:=bA1 hb
   simp only
   split at h
   .rename_i hc
    rw[mA1 ⟨by rw[<-h1.1];exact hc.1,by rw[<-h2.1];exact hc.2⟩]
    exact kT h1 h2 h
   .cases h
  .cases h
 |false=>
  simp only[mG1,nI1]at h ⊢
  exact kT (.cons c .nil) (.cons hb .nil) h
theorem ER.nil:ER [] []:=⟨rfl,fun j x y h=>by simp at h⟩
theorem ER.inv_cons {x:PV×PV} {es:List (PV×PV)} {es':List (AV×AV)} (h:ER (x::es) es'):∃y t,es'=y::t/\RC false x.1 y.1/\RC false x.2 y.2/\ER es t:=by
 cases es' with
 |nil=>have:=h.1;simp at this
 |cons y t=>exact⟨y,t,rfl,(h.2 0 x y rfl rfl).1,(h.2 0 x y rfl rfl).2,by have:=h.1;simpa using this,fun j a b c hb=>h.2 (j+1) a b (by simpa using c) (by simpa using hb)⟩
theorem qR {agg:Bool} {ks:List CK} {k:PV} {k':AV} (hk:RC false k k'):∀{es:List (PV×PV)} {es':List (AV×AV)} {i:Nat} {o:Option (Nat×PV)},ER es es'->qM agg ks k es i=some o->
  ∃o',Sim.findKey agg ks k' es' i=some o'/\((o=none/\o'=none)\/∃j x y,o=some (j,x)/\o'=some (j,y)/\RC false x y)
 |[],es',i,o,he,h=>by
  have:es'=[]:=by have:=he.1;simpa using this.symm
  subst this
  simp only[qM,lZ1]at h
  exact⟨none,rfl,.inl ⟨h.symm,rfl⟩⟩
 |(a,x)::es,es',i,o,he,h=>by
  obtain⟨⟨b,y⟩,t,rfl,h1,h2,d⟩:=he.inv_cons
  simp only[qM]at h
  simp only[Sim.findKey]
  split at h
  .rename_i c
   rw[wO hk h1 c]
   cases h
   exact⟨_,rfl,.inr ⟨i,x,y,rfl,rfl,h2⟩⟩
  .rename_i c
   rw[wO hk h1 c]
   exact qR hk d h
  .cases h
theorem iF {agg:Bool} {ks:List CK} {k:PV} {k':AV} (hk:RC false k k') (h:pC agg ks k=true):Sim.keyOK agg ks k'=true:=by
 unfold pC at h
 split at h
 .obtain ⟨cs',rfl,hl⟩:=bA1 hk
  simp only[lU1,nT1]at h
  simp[Sim.keyOK,<-hl.1,h.2]
 .cases hk
  simp only[mO1]at h
  subst h
  rfl
 .cases h
theorem tE {x:PV} {y:AV} (h:RV C x y):∀{d:Nat},bO d x=true->RC false x y:=by
 induction h with
 |cl h=>intro d _;exact h
 |fn h1 h2 v1 v2 i1 i2=>
  intro d hd
  cases d with
  |zero=>simp[bO]at hd
  |succ d=>
   simp only[bO,lU1,mB1]at hd
   exact .fn h1 h2 (fun j x y a b=>i1 j x y a b (hd.1 x (mE1 a))) (fun j x y a b=>i2 j x y a b (hd.2 x (mE1 a)))
 |agg hl hc ih=>
  intro d hd
  cases d with
  |zero=>simp[bO]at hd
  |succ d=>
   simp only[bO,mB1]at hd
   exact .agg hl (fun j x y a b=>ih j x y a b (hd x (mE1 a)))
 |tup hl hc ih=>
  intro d hd
  cases d with
  |zero=>simp[bO]at hd
  |succ d=>
   simp only[bO,mB1]at hd
   exact .tup hl (fun j x y a b=>ih j x y a b (hd x (mE1 a)))
 |_=>intro d hd;cases d<;>simp[bO]at hd
theorem bB1 {agg ok:Bool} {ks:List CK} {zero:AV} (g:Mem C n h lim s) (D:LR (RV C) xs ys) (hk:bP (.lookup agg ks zero ok) xs h n K=some r):cA C n h lim s (.lookup agg ks zero ok) ys K r:=by
 rcases xs with _|⟨m,_|⟨k,_|⟨x2,t⟩⟩⟩
 .exact aB hk
 .exact aB hk
 .obtain ⟨w,_,rfl,h1,h2⟩:=D.inv_cons
  obtain⟨E,_,rfl,A,B⟩:=h2.inv_cons
  rw[B.inv_nil]
  cases hz:zero with
  |v z=>
   subst hz
   have key:∀(es:List (PV×PV)) (es':List (AV×AV)),ER es es'->Sim.entsOf (Sim.look s.h) w=some es'->
     (bif bO 2 k then(bif ok then bC (nE agg ks (.v z) k es) (fun r=>K (.tup [r.1,.v (.bool r.2)]) h n)else bC (nD agg ks (.v z) k es) fun r=>K r h n)else none)=some r->cA C n h lim s (.lookup agg ks (.v z) ok) [w,E] K r:=by
    intro es es' he f hk
    cases hcl:bO 2 k with
    |false=>rw[hcl]at hk;exact aB hk
    |true=>
    rw[hcl,mF1]at hk
    have b:=tE A hcl
    cases ok with
    |true=>
     simp only[mF1,aU,lT1,nE]at hk
     obtain⟨q,d,hk⟩:=hk
     split at d
     .rename_i c
      simp only[lV1]at d
      obtain⟨o,p,rfl⟩:=d
      obtain⟨o',i,u⟩:=qR b he p
      rcases u with⟨rfl,rfl⟩|⟨j,x,y,rfl,rfl,hxy⟩
      .refine aQ g (y:=.tup [.v z,.v (.bool false)]) ?_ ?_ hk
       .simp [doOp,iF b c,f,i]
       .exact .tup rfl (LR.cons (.cl (.v z)) (.cons (.cl (.v _)) .nil)).2
      .refine aQ g (y:=.tup [y,.v (.bool true)]) ?_ ?_ hk
       .simp [doOp,iF b c,f,i]
       .exact .tup rfl (LR.cons (.cl hxy) (.cons (.cl (.v _)) .nil)).2
     .cases d
    |false=>
     simp only[mT1,aU,lT1,nD]at hk
     obtain⟨q,d,hk⟩:=hk
     split at d
     .rename_i c
      simp only[lV1]at d
      obtain⟨o,p,rfl⟩:=d
      obtain⟨o',i,u⟩:=qR b he p
      rcases u with⟨rfl,rfl⟩|⟨j,x,y,rfl,rfl,hxy⟩
      .refine aQ g (y:=.v z) ?_ (.cl (.v z)) hk
       simp[doOp,iF b c,f,i]
      .refine aQ g (y:=y) ?_ (.cl hxy) hk
       simp[doOp,iF b c,f,i]
     .cases d
   unfold bP at hk
   simp only at hk
   cases m with
   |im es=>
    obtain⟨es',rfl,he⟩:=jS1 h1
    exact key es es' he rfl hk
   |map j=>
    simp only[dA,lT1]at hk
    obtain⟨ob,hg,hk⟩:=hk
    cases ob with
    |mp es=>
     obtain⟨id,ver,e,len,l,rfl⟩:=pD h1
     obtain⟨_,es',f,he⟩:=aV1 g hg l
     exact key es es' he.er (by simp[Sim.entsOf,f]) hk
    |_=>exact aB hk
   |zm es=>
    rcases jV1 h1 with⟨id,es',rfl,l,he⟩|⟨rfl,rfl⟩
    .exact key es es' he.er (by simp[Sim.entsOf,(g.hr.zr id _ l).1]) hk
    .exact key [] [] ⟨rfl,fun j x y a=>by simp at a⟩ rfl hk
   |_=>exact aB hk
  |_=>subst hz;exact aB hk
 .exact aB hk
theorem kE1 {x:PV} {y:AV} (h:RV C x y) (hp:mapP x=true):RK x y:=by
 cases x with
 |agg cs=>
  obtain⟨cs',rfl,hl⟩:=gK h
  exact .inr ⟨cs,cs',rfl,rfl,hl.plain hp⟩
 |_=>exact .inl (h.plain hp)
theorem eK1 {agg:Bool} {ks:List CK} (F:Mem C n h lim s) (T:LR (RV C) xs ys) (hk:bP (.mapup agg ks) xs h n K=some r):cA C n h lim s (.mapup agg ks) ys K r:=by
 rcases xs with _|⟨m,_|⟨k,_|⟨x,_|⟨x2,t⟩⟩⟩⟩
 .exact aB hk
 .exact aB hk
 .exact aB hk
 .obtain ⟨W,_,rfl,h1,h2⟩:=T.inv_cons
  obtain⟨z,_,rfl,M,N⟩:=h2.inv_cons
  obtain⟨A,_,rfl,O,P⟩:=N.inv_cons
  rw[P.inv_nil]
  cases m with
  |map j=>
   have hk:hK h j (fun ob=>match ob with
    |.mp es=>bif mapP k&&mapP x then bC (sQ agg ks k x es) fun es=>eM h j (.mp es) fun h=>K .undef h n else none
    |_=>none)=some r:=hk
   simp only[dA,lT1]at hk
   obtain⟨ob,hg,hk⟩:=hk
   cases ob with
   |mp es=>
    by_cases f:(mapP k&&mapP x)=true
    .simp only[f,mF1,aU,lT1,sQ]at hk
     simp only[lU1]at f
     obtain⟨g,hp,hk⟩:=hk
     have L:=bS _ _ _ _ _ hk
     obtain⟨id,ver,e,len,B,rfl⟩:=pD h1
     obtain⟨p,es',E,he⟩:=aV1 F hg B
     have J:=(F.hr.lt (by rw[hg];simp) B).2
     have u:=kE1 M f.1
     have y:=kE1 O f.2
     have q:=u.rc
     split at hp
     .rename_i w
      simp only[lV1]at hp
      obtain⟨o,S,rfl⟩:=hp
      obtain⟨o',q1,q2⟩:=qR q he.er S
      have fin:∀(g:List (PV×PV)) (c:List (AV×AV)),EM g c->K .undef (hset h j (.mp g)) n=some r->doOp (Sim.look s.h) lim s.n (.mapup agg ks) [.map id,z,A]=some {v:=.undef,up:=some (id,.map c)}->cA C n h lim s (.mapup agg ks) [.map id,z,A] K r:=by
       intro g c G D hd
       obtain⟨U,V⟩:=nK F (po':=.mp g) (ao:=.map c) hg B ⟨p,J,c,by rw[Sim.look_upd];simp[E],G⟩ rfl
       exact⟨_,_,_,_,_,D,hd,.undef,U,.refl _,lW1 _,V,fun R=>by cases R⟩
      rcases q2 with⟨rfl,rfl⟩|⟨i,x0,y0,rfl,rfl,hxy⟩
      .refine fin _ (es'++[(z,A)]) ⟨by simp[he.1],fun i a b d hb=>?_⟩ L ?_
       .rw [nK1]at d hb
        rw[<-he.1]at hb
        split at d
        .rename_i hi;rw[mA1 hi]at hb;exact he.2 i a b d hb
        .rename_i hi
         rw[lY1 hi]at hb
         have H:i-es.length=0:=by
          have:=(lX1.1 d).1
          simpa using this
         rw[H]at d hb
         simp at d hb
         subst d;subst hb
         exact⟨u,y⟩
       .simp only[doOp,E]
        rw[mA1 ⟨p,iF q w⟩,q1]
      .refine fin _ (es'.set i (z,A)) ⟨by simp[he.1],fun l a b d hb=>?_⟩ L ?_
       .rw [mN1]at d hb
        split at d
        .rename_i hi
         subst hi
         rw[mA1 rfl]at hb
         split at d
         .split at hb
          .cases d;cases hb;exact⟨u,y⟩
          .cases hb
         .cases d
        .rename_i hi
         rw[lY1 hi]at hb
         exact he.2 l a b d hb
       .simp only[doOp,E]
        rw[mA1 ⟨p,iF q w⟩,q1]
     .cases hp
    .simp only[nX1]at f
     simp[f]at hk
   |_=>exact aB hk
  |_=>exact aB hk
 .exact aB hk
theorem kF1 {kd:Nat} (a:Mem C n h lim s) (i:LR (RV C) xs ys) (hk:bP (.len kd) xs h n K=some r):cA C n h lim s (.len kd) ys K r:=by
 rcases xs with _|⟨x,_|⟨x2,t⟩⟩
 .exact aB hk
 .obtain ⟨y,_,rfl,h1,h2⟩:=i.inv_cons
  rw[h2.inv_nil]
  unfold bP at hk
  simp only[aS]at hk
  split at hk
  .rename_i e rows
   by_cases b:kd=0
   .subst b
    simp only[oR1,mF1,aU,mC1]at hk
    rcases eA1 h1 with⟨rows',rfl,hr⟩|⟨rfl,rfl|rfl⟩
    .exact aQ a (by simp[doOp,<-hr.1]) (.cl (.v _)) hk
    .exact aQ a rfl (.cl (.v _)) hk
    .exact aQ a rfl (.cl (.v _)) hk
   .rw [mK1 b]at hk;exact aB hk
  .rename_i k
   by_cases b:kd=0
   .subst b
    simp only[oR1,mF1,dA,lT1]at hk
    obtain⟨ob,hg,hk⟩:=hk
    cases ob with
    |lst ty e g rows=>
     simp only[aU,mC1]at hk
     rcases eN h1 with⟨id,ver,f,len,c,rfl⟩|⟨c,hy⟩
     .obtain ⟨_,_,hlen,_⟩:=eU a hg c
      subst hlen
      exact aQ a rfl (.cl (.v _)) hk
     .have:=gH a hg c
      subst this
      rcases hy with rfl|rfl
      .exact aQ a rfl (.cl (.v _)) hk
      .exact aQ a rfl (.cl (.v _)) hk
    |lz ty e dp rows=>
     simp only[aU,mC1]at hk
     rcases eN h1 with⟨id,ver,f,len,c,rfl⟩|⟨c,hy⟩
     .obtain ⟨_,_,_,hlen,_⟩:=tB a hg c
      subst hlen
      exact aQ a rfl (.cl (.v _)) hk
     .have:=pF a hg c
      subst this
      rcases hy with rfl|rfl
      .exact aQ a rfl (.cl (.v _)) hk
      .exact aQ a rfl (.cl (.v _)) hk
    |fl fs=>
     rcases eN h1 with⟨id,ver,f,len,c,rfl⟩|⟨c,hy⟩
     .obtain ⟨_,_,hlen,_⟩:=hK1 a hg c
      subst hlen
      exact aQ a rfl (.cl (.v _)) hk
     .exact (fY1 a hg c).elim
    |_=>exact aB hk
   .rw [mK1 b]at hk;exact aB hk
  .rename_i d e rows
   by_cases b:kd=0
   .subst b
    simp only[oR1,mF1,aU,mC1]at hk
    rcases yK (yJ h1)with(⟨rows',rfl,hr⟩|⟨rfl,rfl⟩)|⟨d',id,ver,ty,els,_,rfl,_,_,_⟩
    .exact aQ a (by simp[doOp,<-hr.1]) (.cl (.v _)) hk
    .exact aQ a rfl (.cl (.v _)) hk
    .exact aQ a rfl (.cl (.v _)) hk
   .rw [mK1 b]at hk;exact aB hk
  .by_cases b:kd=0
   .subst b
    rw[rv_v h1]
    exact aQ a rfl (.cl (.v _)) hk
   .rw [mK1 b]at hk;exact aB hk
  .by_cases b:kd=1
   .subst b
    rw[rv_v h1]
    exact aQ a rfl (.cl (.v _)) hk
   .rw [mK1 b]at hk;exact aB hk
  .exact aB hk
 .exact aB hk
theorem qS {mx:Bool} {k:IntKind}:∀{xs:List PV} {ys:List AV} {a:Int} {K:Int->Option R},LR (RV C) xs ys->mnK mx k a xs K=some r->∃b,(if mx then Sim.foldMx k a ys else Sim.foldMn k a ys)=some b/\K b=some r
 |[],ys,a,K,hx,h=>by
  rw[hx.inv_nil]
  cases mx<;>exact⟨a,rfl,h⟩
 |x::xs,ys,a,K,hx,h=>by
  obtain⟨y,g,rfl,h1,h2⟩:=hx.inv_cons
  cases x with
  |v xv=>
   cases xv with
   |int k' b=>
    have h:(bif kEq k k' then mnK mx k (bif mx then(if b>a then b else a)else(if b<a then b else a)) xs K else none)=some r:=h
    rw[vB]at h
    by_cases e:k=k'
    .rw [mY1 e,mF1]at h
     obtain⟨c,d,f⟩:=qS h2 h
     refine⟨c,?_,f⟩
     rw[rv_v h1]
     cases mx
     .simpa [Sim.foldMn,e]using d
     .simpa [Sim.foldMx,e]using d
    .rw [mK1 e]at h;exact aB h
   |_=>exact aB h
  |_=>exact aB h
theorem lF1 (f:Mem C n h lim s) (g:LR (RV C) xs ys) (hk:bP .mn xs h n K=some r):cA C n h lim s .mn ys K r:=by
 rcases xs with _|⟨x,t⟩
 .exact aB hk
 .obtain ⟨y,d,rfl,h1,h2⟩:=g.inv_cons
  have hk:(match(generalizing:=false) x with
   |.v (.int k a)=>mnK false k a t (fun r=>K (.v (.int k r)) h n)
   |_=>none)=some r:=by rcases t with _|⟨b,_|⟨c,t⟩⟩<;>exact hk
  cases x with
  |v xv=>
   cases xv with
   |int k a=>
    obtain⟨b,e,i⟩:=qS h2 hk
    rw[rv_v h1]
    refine aQ f ?_ (.cl (.v _)) i
    simp only[mG1,nI1]at e
    rcases d with _|⟨b,_|⟨c,t⟩⟩<;>simp only[doOp,e,mQ1]
   |_=>exact aB hk
  |_=>exact aB hk
theorem lG1 (f:Mem C n h lim s) (g:LR (RV C) xs ys) (hk:bP .mx xs h n K=some r):cA C n h lim s .mx ys K r:=by
 rcases xs with _|⟨x,t⟩
 .exact aB hk
 .obtain ⟨y,d,rfl,h1,h2⟩:=g.inv_cons
  have hk:(match(generalizing:=false) x with
   |.v (.int k a)=>mnK true k a t (fun r=>K (.v (.int k r)) h n)
   |_=>none)=some r:=by rcases t with _|⟨b,_|⟨c,t⟩⟩<;>exact hk
  cases x with
  |v xv=>
   cases xv with
   |int k a=>
    obtain⟨b,e,i⟩:=qS h2 hk
    rw[rv_v h1]
    refine aQ f ?_ (.cl (.v _)) i
    simp only[mW1]at e
    rcases d with _|⟨b,_|⟨c,t⟩⟩<;>simp only[doOp,e,mQ1]
   |_=>exact aB hk
  |_=>exact aB hk
theorem kG1 {i:Nat} (b:Mem C n h lim s) (d:LR (RV C) xs ys) (hk:bP (.ext i) xs h n K=some r):cA C n h lim s (.ext i) ys K r:=by
 rcases xs with _|⟨x,_|⟨x2,t⟩⟩
 .exact aB hk
 .obtain ⟨y,_,rfl,h1,h2⟩:=d.inv_cons
  rw[h2.inv_nil]
  cases x with
  |tup vs=>
   have hk:dQ i vs (fun vs=>match vs with
    |v::_=>K v h n
    |[]=>none)=some r:=hk
   obtain⟨e,a⟩:=bK _ _ _ _ hk
   obtain⟨cs',rfl,hl⟩:=aU1 h1
   cases hd:vs.drop i with
   |nil=>rw[hd]at a;exact aB a
   |cons c t=>
    rw[hd]at a
    obtain⟨y,hy,hv⟩:=hl.get (jZ hd)
    exact aQ b (by simp[doOp,hy]) hv a
  |_=>exact aB hk
 .exact aB hk
end
end Go.P
namespace Go.P
open Go.Sim (AV AO Hp Ent upd St IC IX Ex OpK CK Wf Out doOp)
theorem nM {α:Type}:∀(l:List α) (o:Nat) (cs:List α),o+cs.length<=l.length->Sim.setL l o cs=l.take o++cs++l.drop (o+cs.length)
 |[],o,cs,h=>by
  have h1:cs=[]:=by
   cases cs with
   |nil=>rfl
   |cons a as=>simp at h
  subst h1
  simp[Sim.setL]
 |a::l,0,[],h=>by simp[Sim.setL]
 |a::l,0,c::cs,h=>by
  simp only[Sim.setL,List.set_cons_zero]
  rw[gX,nM l 0 cs (by simp at h ⊢;omega)]
  simp
 |a::l,o+1,cs,h=>by
  rw[gX,nM l o cs (by simp at h ⊢;omega)]
  simp[Nat.add_right_comm]
theorem nN (e:Nat):∀(m i:Nat) (cells xs:List AV) (a:List (List AV)),cells.length=(i+m)*e->xs.length=m->a.length=m->
  (∀(j:Nat) (x:AV),xs[j]? =some x->∃cs,x.cells=some cs/\cs.length=e/\a[j]? =some cs)->
  Sim.fillParts cells ((List.range' i m).map fun i=>(i*e,e)) xs=some (cells.take (i*e)++a.flatten)
 |0,i,cells,xs,a,h1,h2,h3,h4=>by
  have g:xs=[]:=by simpa using h2
  have e2:a=[]:=by simpa using h3
  subst g;subst e2
  simp only[List.range'_zero,pF1,Sim.fillParts,List.flatten_nil,oW1]
  rw[mV1 (by rw[h1];simp)]
 |m+1,i,cells,xs,a,h1,h2,h3,h4=>by
  match xs,a,h2,h3 with
  |x::xs,cs0::a,h2,h3=>
   obtain⟨cs,k,d,f⟩:=h4 0 x rfl
   simp at f
   subst f
   simp only[List.range'_succ,nV1,Sim.fillParts,k]
   have b:i*e+e<=cells.length:=by
    rw[h1]
    have:(i+1)*e<=(i+(m+1))*e:=mR1 _ (by omega)
    rw[nN1,Nat.one_mul]at this
    exact this
   rw[mA1 ⟨d,b⟩]
   have hs:=nM cells (i*e) cs0 (by rw[d];exact b)
   have hlen:(Sim.setL cells (i*e) cs0).length=cells.length:=by
    rw[hs]
    simp[d]
    omega
   rw[nN e m (i+1) _ xs a (by rw[hlen,h1];congr 1;omega) (by simpa using h2) (by simpa using h3) (fun j x h=>by
    obtain⟨c,q1,q2,q3⟩:=h4 (j+1) x (by simpa using h)
    exact⟨c,q1,q2,by simpa using q3⟩)]
   congr 1
   rw[hs,pD1,<-List.append_assoc]
   congr 1
   have hl:(cells.take (i*e)++cs0).length=(i+1)*e:=by
    simp[d,nN1]
    omega
   rw[oS1 (by rw[hl];exact lW1 _),mV1 (by rw[hl];exact lW1 _)]
theorem hS1 (e:Nat):∀(a:List (List AV)),(∀c∈a,c.length=e)->(List.range a.length).map (fun i=>(a.flatten.drop (i*e)).take e)=a
 |[],_=>rfl
 |c::a,h=>by
  have hc:=h c (by simp)
  have ih:=hS1 e a (fun c hc=>h c (by simp[hc]))
  rw[nH1,List.range_succ_eq_map,nV1,List.map_map]
  simp only[pE1,nJ1,pD1]
  rw[oS1 (by omega),mV1 (by omega)]
  congr 1
  refine Eq.trans (List.map_congr_left fun i _=>?_) ih
  simp only[Function.comp]
  rw[nG1,nW1,<-hc,<-oD1,List.drop_left]
theorem qT (l:List AV):∀(m:List Nat),(m.flatMap fun _=>l).length=m.length*l.length
 |[]=>by simp
 |a::m=>by
  rw[List.flatMap_cons,nM1,qT l m,nH1,nG1,nW1]
section
variable {R:Type} {C:Cx} {n:Nat} {h:Heap} {lim:Nat} {s:Hp} {k:OpK} {xs:List PV} {ys:List AV} {K:PV->Heap->Nat->Option R} {r:R}
theorem fZ1 (a b:Nat):a<=(bif Nat.blt a b then b else a)/\b<=(bif Nat.blt a b then b else a):=by
 by_cases h:a<b
 .have hb:Nat.blt a b=true:=by simpa using h
  rw[hb];simp only[mF1];omega
 .have hb:Nat.blt a b=false:=by cases hb:Nat.blt a b with|false=>rfl|true=>exact absurd (by simpa using hb) h
  rw[hb];simp only[mT1];omega
theorem eL1 {x:PV} {y:AV} {d:Nat} {b:PV} (h:RV C x y) (hc:hG1 x=some (d,b)):RZ C.z d b y:=by
 have pl:∀{x:PV},RV C x y->cW x=true->RC true x y:=fun a hp=>by
  have:=(LR.cons a .nil).plain (xs:=[_]) (by simpa using hp)
  exact this.head
 unfold hG1 at hc
 split at hc
 .cases hc
  exact yJ h
 .rename_i a
  cases hp:cW x with
  |true=>rw[hp]at hc;cases hc;exact RZ.of (pl h hp)
  |false=>rw[hp]at hc;cases hc
theorem tF:∀{cs:List PV} {cs':List AV} {d:Nat} {ys:List PV},LR (RV C) cs cs'->sR cs=some (d,ys)->LR (RZ C.z d) ys cs'
 |[],cs',d,ys,h,hc=>by
  rw[h.inv_nil];cases hc;exact .nil
 |x::xs,cs',d,ys,h,hc=>by
  obtain⟨y,e,rfl,h1,h2⟩:=h.inv_cons
  unfold sR at hc
  split at hc
  .rename_i a f b xs' c e2
   cases hc
   have m:=fZ1 a b
   exact .cons (RZ.up m.1 (eL1 h1 c)) ((tF h2 e2).mono fun _ _ h=>RZ.up m.2 h)
  .cases hc
theorem nO (e:Nat):∀(xs:List PV) (K:Nat->List (List PV)->Option R) (r:R),sS e xs K=some r->∃dp rows,K dp rows=some r/\rows.length=xs.length/\
  ∀(j:Nat) (x:PV),xs[j]? =some x->∃cs,cG x=some cs/\∃d ys,sR cs=some (d,ys)/\ys.length=e/\d<=dp/\rows[j]? =some ys
 |[],K,r,h=>⟨0,[],h,rfl,fun j x a=>by simp at a⟩
 |x::xs,K,r,h=>by
  simp only[sS,fO,lT1]at h
  obtain⟨cs,h1,h2⟩:=h
  split at h2
  .rename_i d ys f
   cases hb:Nat.beq ys.length e with
   |false=>rw[hb]at h2;cases h2
   |true=>
    rw[hb,mF1]at h2
    obtain⟨dp,rows,g,i,k⟩:=nO e xs _ r h2
    have m:=fZ1 d dp
    refine⟨_,_,g,by simp[i],fun j l a=>?_⟩
    cases j with
    |zero=>simp at a;subst a;exact⟨cs,h1,d,ys,f,mI1 hb,m.1,rfl⟩
    |succ j=>
     simp at a
     obtain⟨cs',q1,c,b,q2,q3,q4,q5⟩:=k j l a
     exact⟨cs',q1,c,b,q2,q3,nC1 q4 m.2,by simpa using q5⟩
  .cases h2
theorem yM {ty:TypeId} {e len:Nat} {zero:List Value} {parts:List Nat} (J:Mem C n h lim s) (o:LR (RV C) xs ys) (hk:bP (.buildSl ty e len zero parts) xs h n K=some r):cA C n h lim s (.buildSl ty e len zero parts) ys K r:=by
 have hk:(bif upTo 0 parts&&(Nat.beq zero.length e&& !(isFx ty))then(bif Nat.beq parts.length len then bif xs.all hH1 then nF e xs fun rows=>bif Nat.beq rows.length len then K (.own n) ((n,.lst ty e false rows)::h) (n+1)else none else sS e xs fun dp rows=>bif Nat.beq rows.length len then K (.own n) ((n,.lz ty e dp rows)::h) (n+1)else none else none)else none)=some r:=by
  rcases xs with _|⟨a,_|⟨b,_|⟨c,t⟩⟩⟩<;>exact hk
 by_cases hc:(upTo 0 parts&&(Nat.beq zero.length e&& !(isFx ty)))=true
 .rw [hc,mF1]at hk
  simp only[lU1,aS,mU1]at hc hk
  obtain⟨c1,c2,p⟩:=hc
  have P:rty ty=ty:=by simp only[mO1]at p;simp[rty,p]
  have hfx:isFx ty=false:=by simpa using p
  by_cases c3:parts.length=len
  .rw [mY1 c3,mF1]at hk
   have M:∃(po:PObj) (rows:List (List PV)) (Q:PV->AV->Prop),K (.own n) ((n,po)::h) (n+1)=some r/\rows.length=len/\rows.length=xs.length/\
     (∀(j:Nat) (x:PV),xs[j]? =some x->∃cs,cG x=some cs/\∃r,rows[j]? =some r/\r.length=e/\∀cs',LR (RV C) cs cs'->LR Q r cs')/\
     ∀f:List (List AV),rows.length=f.length->(∀(i:Nat) (r:List PV) (r':List AV),rows[i]? =some r->f[i]? =some r'->LR Q r r')->
      ObjR (ext C n (.atp s.n 0 e len)) (Sim.look (.ob s.n (.arr false ty e 0 f)::s.h)) lim (s.n+1) po (.atp s.n 0 e len):=by
    cases hpl:xs.all hH1 with
    |true=>
     rw[hpl,mF1]at hk
     obtain⟨rows,m,E,F⟩:=lF e xs _ r hk
     by_cases c4:rows.length=len
     .rw [mY1 c4,mF1]at m
      refine⟨_,rows,RC true,m,c4,E,fun j x o=>?_,fun f hl u=>?_⟩
      .obtain ⟨cs,q1,q2,q3,q4⟩:=F j x o
       exact⟨cs,q1,cs,q4,q2,fun cs' h=>h.plain q3⟩
      .exact ⟨J.lim,by omega,rfl,c4.symm,f,by rw[bX,mA1 rfl,P],by rw[mV1 (by rw[hl];exact lW1 _)];exact⟨hl,u⟩,by rw[hl];exact lW1 _,fun _=>hl.symm⟩
     .rw [mK1 c4]at m;exact aB m
    |false=>
     rw[hpl,mT1]at hk
     obtain⟨dp,rows,m,E,F⟩:=nO e xs _ r hk
     by_cases c4:rows.length=len
     .rw [mY1 c4,mF1]at m
      refine⟨_,rows,RZ C.z dp,m,c4,E,fun j x o=>?_,fun f hl u=>?_⟩
      .obtain ⟨cs,q1,d,U,q2,q3,q4,q5⟩:=F j x o
       exact⟨cs,q1,U,q5,q3,fun cs' h=>(tF h q2).mono fun _ _ h=>RZ.up q4 h⟩
      .exact ⟨J.lim,by omega,rfl,c4.symm,hfx,f,by rw[bX,mA1 rfl],hl,u⟩
     .rw [mK1 c4]at m;exact aB m
   obtain⟨po,rows,Q,m,c4,E,F,R⟩:=M
   have hp:=sZ 0 parts c1
   rw[c3]at hp
   subst hp
   have D:∀(j:Nat) (x:AV),ys[j]? =some x->∃cs,x.cells=some cs/\cs.length=e/\∃r,rows[j]? =some r/\LR Q r cs:=by
    intro j y hy
    have A:j<xs.length:=by rw[o.1];exact(lX1.1 hy).1
    obtain⟨cs,q1,G,q2,q3,q4⟩:=F j xs[j] (by simp)
    obtain⟨cs',p1,p2⟩:=jY (o.2 j xs[j] y (by simp) hy) q1
    have:=q4 cs' p2
    exact⟨cs',p1,by rw[<-this.1];exact q3,G,q2,this⟩
   have q:∃f:List (List AV),f.length=ys.length/\∀(j:Nat) (x:AV),ys[j]? =some x->∃cs,x.cells=some cs/\cs.length=e/\f[j]? =some cs/\∃r,rows[j]? =some r/\LR Q r cs:=by
    refine⟨ys.map fun y=>(y.cells).getD [],by simp,fun j y hy=>?_⟩
    obtain⟨cs,p1,p2,p3⟩:=D j y hy
    exact⟨cs,p1,p2,by simp[hy,p1],p3⟩
   obtain⟨f,H,T⟩:=q
   have g:ys.length=len:=by rw[<-o.1,<-E,c4]
   have W:(Sim.zeroRow zero).length=e:=by simp[Sim.zeroRow,c2]
   have L:((List.range len).flatMap fun _=>Sim.zeroRow zero).length=len*e:=by
    rw[qT,W,List.length_range]
   have l:=nN e len 0 ((List.range len).flatMap fun _=>Sim.zeroRow zero) ys f (by rw[L];simp) g (by rw[H,g]) (fun j x o=>by
    obtain⟨cs,p1,p2,p3,_⟩:=T j x o
    exact⟨cs,p1,p2,p3⟩)
   simp only[pE1,List.take_zero,List.nil_append]at l
   have w:∀c∈f,c.length=e:=by
    intro c hc
    obtain⟨j,V⟩:=nA1.1 hc
    have A:j<ys.length:=by rw[<-H];exact(lX1.1 V).1
    obtain⟨cs,p1,p2,p3,_⟩:=T j ys[j] (by simp)
    rw[V]at p3
    cases p3
    exact p2
   have k:=hS1 e f w
   rw[H,g]at k
   have u:∀(j:Nat) (G:List PV) (S:List AV),rows[j]? =some G->f[j]? =some S->LR Q G S:=by
    intro j G S O B
    have A:j<ys.length:=by rw[<-H];exact(lX1.1 B).1
    obtain⟨cs,p1,p2,p3,r2,p4,p5⟩:=T j ys[j] (by simp)
    rw[B]at p3;cases p3
    rw[O]at p4;cases p4
    exact p5
   have N:=gJ J (.atp s.n 0 e len)
   obtain⟨X,Y,Z⟩:=lG J (po:=po) (ao:=.arr false ty e 0 f) (ver:=0) (e:=e) (len:=len) (R f (by rw[c4,H,g]) u)
   refine⟨_,_,_,_,{v:=.sl e s.n 0 0 len none,new:=some (.arr false ty e 0 f)},m,?_,.own (iS C n _),X,N,by omega,Y,fun _=>Z⟩
   have:doOp (Sim.look s.h) lim s.n (.buildSl ty e len zero (List.range' 0 len)) ys=(Sim.fillParts ((List.range len).flatMap fun _=>Sim.zeroRow zero) ((List.range' 0 len).map fun i=>(i*e,e)) ys).map fun cs=>
    {v:=.sl e s.n 0 0 len none,new:=some (.arr false ty e 0 ((List.range len).map fun i=>(cs.drop (i*e)).take e))}:=by
    rcases ys with _|⟨a,_|⟨b,_|⟨c,t⟩⟩⟩<;>rfl
   rw[this,l]
   simp only[mQ1]
   rw[k]
  .rw [mK1 c3]at hk;exact aB hk
 .simp only[nX1]at hc
  rw[hc]at hk;exact aB hk
theorem pI {i:Int}:∀{m:Nat} {K:Nat->Option R} {r:R},aK1 i m K=some r->∃j,j<m/\i=(j:Int)/\K j=some r
 |0,K,r,h=>by unfold aK1 at h;exact aB h
 |m+1,K,r,h=>by
  unfold aK1 at h
  rw[jT]at h
  split at h
  .rename_i e;exact⟨m,by omega,by simpa using e,h⟩
  .obtain ⟨j,h1,h2,a⟩:=pI h;exact⟨j,by omega,h2,a⟩
theorem hT1 {len esz:Nat} (l:Mem C n h lim s) (m:LR (RV C) xs ys) (hk:bP (.iadA len esz) xs h n K=some r):cA C n h lim s (.iadA len esz) ys K r:=by
 rcases xs with _|⟨p,_|⟨i,_|⟨x2,t⟩⟩⟩
 .exact aB hk
 .exact aB hk
 .obtain ⟨u,_,rfl,h1,h2⟩:=m.inv_cons
  obtain⟨w,_,rfl,d,f⟩:=h2.inv_cons
  rw[f.inv_nil]
  unfold bP at hk
  simp only at hk
  split at hk
  .rename_i i
   split at hk
   .rename_i k o
    obtain⟨j,q,a,b⟩:=pI hk
    clear hk
    subst a
    rw[rv_v d]
    obtain⟨id,ver,e,c,g,rfl⟩:=fP h1
    refine aQ (v:=.ref k (o+j*esz)) (y:=.ptr id ver 0 (o+j*esz)) l ?_ (.ref g) b
    simp only[doOp,Sim.intOf]
    rw[mA1 ⟨by omega,by omega⟩]
    simp
   .exact aB hk
  .exact aB hk
 .exact aB hk
theorem wP (g:Mem C n h lim s) (j:LR (RV C) xs ys) (hk:bP k xs h n K=some r):cA C n h lim s k ys K r:=by
 cases k with
 |mov=>exact jT1 g j hk
 |nilc=>exact hJ1 g j hk
 |box ty size=>exact jU1 g j hk
 |alloc ty zero=>exact eB1 g j hk
 |build zero parts=>exact eC1 g j hk
 |buildSl ty e len zero parts=>exact yM g j hk
 |loadS=>exact eD1 g j hk
 |loadA m=>exact eE1 g j hk
 |store m=>exact eF1 g j hk
 |fad off=>exact jX1 g j hk
 |iad e=>exact jY1 g j hk
 |iadA len esz=>exact hT1 g j hk
 |fldS off=>exact hL1 g j hk
 |fldA off m=>exact hO1 g j hk
 |idxStr=>exact aX1 g j hk
 |idxA len e agg=>exact hP1 g j hk
 |bin op=>exact jZ1 g j hk
 |eqB neg=>exact kA1 g j hk
 |eqA neg ks=>exact kB1 g j hk
 |eqNil neg kd=>exact eJ1 g j hk
 |un op=>exact lE1 g j hk
 |convI k=>exact eG1 g j hk
 |convS=>exact eH1 g j hk
 |s2b t=>exact kC1 g j hk
 |mkfn f m=>exact hQ1 g j hk
 |mkmap=>exact eI1 g j hk
 |mksl ty e b zero=>exact hR1 g j hk
 |slc e lo hi mx=>exact kD1 g j hk
 |slcStr lo hi=>exact aZ1 g j hk
 |lookup agg ks zero ok=>exact bB1 g j hk
 |mapup agg ks=>exact eK1 g j hk
 |len kd=>exact kF1 g j hk
 |mn=>exact lF1 g j hk
 |mx=>exact lG1 g j hk
 |ext i=>exact kG1 g j hk
 |_=>rcases xs with _|⟨a,_|⟨b,_|⟨c,_|⟨d,t⟩⟩⟩⟩<;>exact aB hk
end
end Go.P
namespace Go.P
open Go.Sim (AV AO Hp Ent upd St IC IX Ex OpK CK Wf Out doOp Tab Foot foot exec runOps bN wanted put revF)
def eO:OpK->Bool
 |.callF _|.callV=>true
 |_=>false
def cls (N:FuncId->Bool) (dr:Nat):OpK->Nat
 |.len kd=>bif Nat.beq kd 2 then 1 else 0
 |.loadS|.loadA _|.lookup .. |.slc .. |.b2s=>1
 |.box .. |.alloc .. |.buildSl .. |.mkmap|.mksl .. =>2
 |.callF f=>if N f then 4 else 3
 |.callV=>if dr=4 then 4 else 3
 |.store _|.mapup .. |.append .. |.copy _|.clear .. =>5
 |_=>0
inductive Tr (T:Tab) (N:FuncId->Bool) (dr lim:Nat):List Sim.Op1->St->List Foot->St->Prop
 |nil {σ:St}:Tr T N dr lim [] σ [] σ
 |skip {o:Sim.Op1} {os:List Sim.Op1} {σ τ:St} {fs:List Foot} (hw:wanted σ.t o.guard=false) (h:Tr T N dr lim os {t:=put σ.t o.dst .undef,s:=σ.s} fs τ):Tr T N dr lim (o::os) σ ({}::fs) τ
 |op {o:Sim.Op1} {os:List Sim.Op1} {σ τ:St} {fs:List Foot} {xs:List AV} {out:Out} (hw:wanted σ.t o.guard=true) (he:Sim.evs σ.t o.xs=some xs) (hc:eO o.k=false)
   (hd:doOp (Sim.look σ.s.h) lim σ.s.n o.k xs=some out) (h:Tr T N dr lim os {t:=put σ.t o.dst out.v,s:=out.apply σ.s} fs τ):
   Tr T N dr lim (o::os) σ ({foot T o.k xs with al:=List.range' σ.s.n ((out.apply σ.s).n-σ.s.n)}::fs) τ
 |call {o:Sim.Op1} {os:List Sim.Op1} {σ τ:St} {fs:List Foot} {xs:List AV} {v:AV} (hw:wanted σ.t o.guard=true) (he:Sim.evs σ.t o.xs=some xs) (hc:eO o.k=true) (hk:3<=cls N dr o.k) (hf:foot T o.k xs={all:=1})
   (hs:∃D,∀d,D<=d->∀m,Sim.step T (exec T d) lim o.k xs {h:=σ.s.h,n:=m}=some (v,{h:=σ.s.h,n:=m})) (h:Tr T N dr lim os {t:=put σ.t o.dst v,s:=σ.s} fs τ):
   Tr T N dr lim (o::os) σ ({all:=1}::fs) τ
 |ncall {o:Sim.Op1} {os:List Sim.Op1} {σ τ:St} {fs:List Foot} {xs:List AV} {v:AV} {s':Hp} (hw:wanted σ.t o.guard=true) (he:Sim.evs σ.t o.xs=some xs) (hf:(foot T o.k xs).all=2) (hk:dr≠0->cls N dr o.k=4)
   (hs:∃D,∀d,D<=d->Sim.step T (exec T d) lim o.k xs σ.s=some (v,s')) (h:Tr T N dr lim os {t:=put σ.t o.dst v,s:=s'} fs τ):
   Tr T N dr lim (o::os) σ ({foot T o.k xs with al:=List.range' σ.s.n (s'.n-σ.s.n)}::fs) τ
section
variable {T:Tab} {N:FuncId->Bool} {dr lim:Nat}
theorem Tr.append {as a:List Sim.Op1} {σ τ υ:St} {fs b:List Foot} (h:Tr T N dr lim as σ fs τ) (k:Tr T N dr lim a τ b υ):Tr T N dr lim (as++a) σ (fs++b) υ:=by
 induction h with
 |nil=>exact k
 |skip hw h ih=>exact .skip hw (ih k)
 |op hw he hc hd h ih=>exact .op hw he hc hd (ih k)
 |call hw he hc hk hf hs h ih=>exact .call hw he hc hk hf hs (ih k)
 |ncall hw he hf hk hs h ih=>exact .ncall hw he hf hk hs (ih k)
theorem bC1 {ex:Nat->Bool->IC->St->Option (Ex×St)} {k:OpK} {xs:List AV} {s:Hp} {out:Out} (hc:eO k=false) (hd:doOp (Sim.look s.h) lim s.n k xs=some out):Sim.step T ex lim k xs s=some (out.v,out.apply s):=by
 unfold Sim.step
 split
 .simp [eO]at hc
 .simp [eO]at hc
 .rw [hd]
theorem Tr.run {os:List Sim.Op1} {σ τ:St} {fs:List Foot} (h:Tr T N dr lim os σ fs τ):∃D,∀d,D<=d->runOps T (exec T d) lim os σ=some τ:=by
 induction h with
 |nil=>exact⟨0,fun d _=>rfl⟩
 |skip hw h ih=>
  obtain⟨D,a⟩:=ih
  refine⟨D,fun d hd=>?_⟩
  simp only[runOps,hw]
  exact a d hd
 |op hw he hc hd h ih=>
  obtain⟨D,a⟩:=ih
  refine⟨D,fun d c=>?_⟩
  simp only[runOps,hw,mW1,he,bC1 hc hd]
  exact a d c
 |@ncall o os σ τ fs xs v s' hw he hf hk hs h ih=>
  obtain⟨D,a⟩:=ih
  obtain⟨D2,b⟩:=hs
  refine⟨max D D2,fun d hd=>?_⟩
  simp only[runOps,hw,mW1,he,b d (by omega)]
  exact a d (by omega)
 |@call o os σ τ fs xs v hw he hc hk hf hs h ih=>
  obtain⟨D,a⟩:=ih
  obtain⟨D2,b⟩:=hs
  refine⟨max D D2,fun d hd=>?_⟩
  simp only[runOps,hw,mW1,he]
  have:=b d (by omega) σ.s.n
  rw[show({h:=σ.s.h,n:=σ.s.n}:Hp)=σ.s from rfl]at this
  rw[this]
  exact a d (by omega)
def iT (c:Nat) (f:Foot):Prop:=
 f={}\/match c with
  |0=>f={}
  |1=>f.wr=[]/\f.al=[]/\f.all=0
  |2=>f.rd=[]/\f.wr=[]/\f.all=0
  |3=>f={all:=1}
  |5=>f.all=0
  |_=>True
def cR (i j:Nat):Bool:=
 bif Nat.beq i 0 then !Nat.beq j 4 else bif Nat.beq j 0 then !Nat.beq i 4 else
  (Nat.ble i 3&&Nat.ble j 3&& !(Nat.beq i 3&&Nat.beq j 3)&& !(Nat.beq i 2&&(Nat.beq j 3||Nat.beq j 1)))||(Nat.beq i 5&&Nat.beq j 2)
def gL (i j:Nat):Bool:=Nat.beq i 0||Nat.beq j 0||cR i j
theorem yN {i j:Nat} {f g:Foot} (hi:i<=5) (d:j<=5) (h:cR i j=true) (hf:iT i f) (hg:iT j g):Sim.compat0 f g=true:=by
 unfold iT at hf hg
 have l:∀g:Foot,g.all<=1->Sim.compat0 {} g=true:=fun g hg=>by simp[Sim.compat0,hg]
 have e:∀f:Foot,f.all<=1->Sim.compat0 f {}=true:=fun f hf=>by simp[Sim.compat0,hf]
 have k:i≠4:=by rintro rfl;(match j,d,h with|0,_,h|1,_,h|2,_,h|3,_,h|4,_,h|5,_,h=>simp[cR]at h)
 have b:j≠4:=by rintro rfl;(match i,hi,h with|0,_,h|1,_,h|2,_,h|3,_,h|4,_,h|5,_,h=>simp[cR]at h)
 have a1:∀{c:Nat} {f:Foot},c<=5->c≠4->(f={}\/match c with
  |0=>f={}
  |1=>f.wr=[]/\f.al=[]/\f.all=0
  |2=>f.rd=[]/\f.wr=[]/\f.all=0
  |3=>f={all:=1}
  |5=>f.all=0
  |_=>True)->f.all<=1:=by
  intro c f hc a hf
  rcases hf with rfl|hf
  .simp
  .match c,hc,a,hf with
   |0,_,_,hf=>rw[hf];simp
   |1,_,_,hf=>rw[hf.2.2];simp
   |2,_,_,hf=>rw[hf.2.2];simp
   |3,_,_,hf=>rw[hf];simp
   |4,_,a,_=>exact absurd rfl a
   |5,_,_,hf=>rw[hf];simp
 have b1:=a1 hi k hf
 have b2:=a1 d b hg
 rcases hf with rfl|hf
 .exact l g b2
 .rcases hg with rfl|hg
  .exact e f b1
  .have fin:f.wr=[]->g.wr=[]->f.al=[]\/(g.rd=[])->f.all+g.all<=1->Sim.compat0 f g=true:=by
    intro q1 q2 q3 q4
    rcases q3 with q3|q3<;>simp[Sim.compat0,q1,q2,q3,q4]
   match i,hi,k,h,hf with
   |0,_,_,_,hf=>rw[hf];exact l g b2
   |1,_,_,h,hf=>
    obtain⟨p1,p2,p3⟩:=hf
    match j,d,b,h,hg with
    |0,_,_,_,hg=>rw[hg];exact e f b1
    |1,_,_,_,hg=>exact fin p1 hg.1 (.inl p2) (by rw[p3,hg.2.2];simp)
    |2,_,_,_,hg=>exact fin p1 hg.2.1 (.inl p2) (by rw[p3,hg.2.2];simp)
    |3,_,_,_,hg=>exact fin p1 (by rw[hg]) (.inl p2) (by rw[p3,hg];simp)
    |4,_,a,_,_=>exact absurd rfl a
    |5,_,_,h,_=>simp[cR]at h
   |2,_,_,h,hf=>
    obtain⟨p1,p2,p3⟩:=hf
    match j,d,b,h,hg with
    |0,_,_,_,hg=>rw[hg];exact e f b1
    |1,_,_,h,_=>simp[cR]at h
    |2,_,_,_,hg=>exact fin p2 hg.2.1 (.inr hg.1) (by rw[p3,hg.2.2];simp)
    |3,_,_,h,_=>simp[cR]at h
    |4,_,a,_,_=>exact absurd rfl a
    |5,_,_,h,_=>simp[cR]at h
   |3,_,_,h,hf=>
    match j,d,b,h,hg with
    |0,_,_,_,hg=>rw[hg];exact e f b1
    |1,_,_,_,hg=>exact fin (by rw[hf]) hg.1 (.inl (by rw[hf])) (by rw[hf,hg.2.2];simp)
    |2,_,_,_,hg=>exact fin (by rw[hf]) hg.2.1 (.inl (by rw[hf])) (by rw[hf,hg.2.2];simp)
    |3,_,_,h,_=>simp[cR]at h
    |4,_,a,_,_=>exact absurd rfl a
    |5,_,_,h,_=>simp[cR]at h
   |4,_,h1,_,_=>exact absurd rfl h1
   |5,_,_,h,hf=>
    match j,d,b,h,hg with
    |0,_,_,_,hg=>rw[hg];exact e f b1
    |1,_,_,h,_=>simp[cR]at h
    |2,_,_,_,hg=>
     obtain⟨p1,p2,p3⟩:=hg
     have hf:f.all=0:=hf
     simp[Sim.compat0,p1,p2,p3,hf]
    |3,_,_,h,_=>simp[cR]at h
    |4,_,a,_,_=>exact absurd rfl a
    |5,_,_,h,_=>simp[cR]at h
theorem tG {i j:Nat} {f g:Foot} (hi:i<=5) (a:j<=5) (h:gL i j=true) (hf:iT i f) (hg:iT j g):Sim.compat f g=true:=by
 simp only[gL,mP1]at h
 rcases h with(h|h)|h
 .have:=mI1 h
  subst this
  rcases hf with rfl|hf
  .rfl
  .have hf:f={}:=hf
   subst hf
   rfl
 .have:=mI1 h
  subst this
  have hg:g={}:=by rcases hg with hg|hg<;>exact hg
  subst hg
  simp[Sim.compat,Sim.Foot.isE]
 .simp [Sim.compat,yN hi a h hf hg]
theorem lI (N:FuncId->Bool) (dr:Nat) (k:OpK):cls N dr k<=5:=by
 cases k
 case len kd=>simp only[cls];cases Nat.beq kd 2<;>simp
 all_goals simp[cls]<;>split<;>omega
theorem lX {N:FuncId->Bool} {dr:Nat} {k:OpK} (h:eO k=true):cls N dr k=3\/cls N dr k=4:=by
 cases k<;>simp[eO]at h<;>simp only[cls]<;>split<;>simp
theorem kH1 {L:Nat->Option AO} {n:Nat} {k:OpK} {xs:List AV} {out:Out} (h:doOp L lim n k xs=some out) (hk:cls N dr k<=1):out.new=none:=by
 have hc:∀{o:Option Out} {P:Prop},o=some out->(∀o',o=some o'->o'.new=none)->out.new=none:=fun h1 h2=>h2 _ h1
 unfold doOp at h
 split at h
 all_goals first|(simp[cls]at hk;done)|(simp only[cls]at hk;split at hk<;>omega)|skip
 all_goals (repeat' split at h)
 all_goals first|(cases h;done)|(cases h;rfl)|(simp only[lV1]at h;obtain⟨_,_,rfl⟩:=h;rfl)|skip
theorem lJ {s:Hp} {out:Out} (h:out.new=none):List.range' s.n ((out.apply s).n-s.n)=[]:=by
 unfold Out.apply
 rw[h]
 simp
end
end Go.P
namespace Go.P
open Go.Sim (AV AO Hp Ent upd St IC IX Ex OpK CK Wf Out doOp Tab Foot foot exec runOps bN wanted put revF)
section
variable {T:Tab} {N:FuncId->Bool} {dr lim:Nat}
theorem bD1 {k:OpK} {xs:List AV} {s:Hp} {out:Out} (hc:eO k=false) (hd:doOp (Sim.look s.h) lim s.n k xs=some out):
  iT (cls N dr k) {foot T k xs with al:=List.range' s.n ((out.apply s).n-s.n)}:=by
 have d:cls N dr k<=1->List.range' s.n ((out.apply s).n-s.n)=[]:=fun h=>lJ (kH1 hd h)
 cases k
 case len kd=>
  cases hk:Nat.beq kd 2 with
  |true=>
   have hl:=d (by simp[cls,hk])
   rw[hl,show cls N dr (.len kd)=1 by simp[cls,hk]]
   refine .inr ⟨?_,rfl,?_⟩<;>(rcases xs with _|⟨a,_|⟨b,t⟩⟩<;>rfl)
  |false=>
   have h0:=d (by simp[cls,hk])
   refine .inl ?_
   rw[h0]
   rcases xs with _|⟨a,_|⟨b,t⟩⟩<;>simp[foot,hk]
 all_goals first|(simp[eO]at hc;done)|skip
 all_goals first
  |exact .inr trivial
  |(refine .inr ?_;rcases xs with _|⟨a,_|⟨b,_|⟨c,t⟩⟩⟩<;>rfl)
  |(have h0:=d (nR1 1);refine .inl ?_;rw[h0];rfl)
  |(have h0:=d (lW1 1);refine .inr ⟨?_,h0,?_⟩<;>(rcases xs with _|⟨a,_|⟨b,_|⟨c,t⟩⟩⟩<;>rfl))
  |exact .inr ⟨rfl,rfl,rfl⟩
theorem jP {c:Nat} (h:c=3\/c=4) (f:Foot) (hf:f={all:=1}):iT c f:=by
 subst hf
 rcases h with rfl|rfl
 .exact .inr rfl
 .exact .inr trivial
theorem Tr.feet (a:dr≠0) {os:List Sim.Op1} {σ τ:St} {fs:List Foot} (h:Tr T N dr lim os σ fs τ):fs.length=os.length/\∀(i:Nat) (o:Sim.Op1) (f:Foot),os[i]? =some o->fs[i]? =some f->iT (cls N dr o.k) f:=by
 induction h with
 |nil=>exact⟨rfl,fun i o f h=>by simp at h⟩
 |skip hw h ih=>
  refine⟨by simp[ih.1],fun i o f h1 h2=>?_⟩
  cases i with
  |zero=>simp at h1 h2;subst h1;subst h2;exact .inl rfl
  |succ i=>simp at h1 h2;exact ih.2 i o f h1 h2
 |op hw he hc hd h ih=>
  refine⟨by simp[ih.1],fun i o f h1 h2=>?_⟩
  cases i with
  |zero=>simp at h1 h2;subst h1;subst h2;exact bD1 hc hd
  |succ i=>simp at h1 h2;exact ih.2 i o f h1 h2
 |@call o os σ τ fs xs v hw he hc hk hf hs h ih=>
  refine⟨by simp[ih.1],fun i o' f h1 h2=>?_⟩
  cases i with
  |zero=>
   simp at h1 h2;subst h1;subst h2
   exact jP (lX hc) _ rfl
  |succ i=>simp at h1 h2;exact ih.2 i o' f h1 h2
 |@ncall o os σ τ fs xs v s' hw he hf hk hs h ih=>
  refine⟨by simp[ih.1],fun i o' f h1 h2=>?_⟩
  cases i with
  |zero=>
   simp at h1 h2;subst h1;subst h2
   rw[hk a]
   exact .inr trivial
  |succ i=>simp at h1 h2;exact ih.2 i o' f h1 h2
theorem dE {f g:Foot} (h:Sim.compat0 f g=true):Sim.compat f g=true:=by simp[Sim.compat,h]
def wQ (ks before:List Nat):Bool:=
 (List.range ks.length).all fun j=>(List.range j).all fun i=>(before.getD j 0).testBit i||gL (ks.getD i 4) (ks.getD j 4)
theorem pJ {a:Nat} {ft:Nat->Foot}:∀{j:Nat},(∀i,i<j->a.testBit i=true\/(ft i).al=[])->Sim.unseen a j (revF ft j)=[]
 |0,_=>rfl
 |j+1,h=>by
  simp only[revF,Sim.unseen,oF1]
  rw[pJ (fun i hi=>h i (by omega))]
  rcases h j (by omega)with h1|h1
  .rw [mA1 h1];rfl
  .rw [h1];simp
theorem lK {a:Nat} {f:Foot} {ft:Nat->Foot}:∀{j:Nat},(∀i,i<j->a.testBit i=true\/Sim.compat (ft i) f=true)->Sim.drawOK.okAgainst a f (revF ft j) j=true
 |0,_=>rfl
 |j+1,h=>by
  simp only[revF,Sim.drawOK.okAgainst,oF1,lU1,mP1]
  exact⟨h j (by omega),lK (fun i hi=>h i (by omega))⟩
theorem nP {before:List Nat} {ft:Nat->Foot}:∀{m:Nat},(∀j,j<m->∀i,i<j->(before.getD j 0).testBit i=true\/Sim.compat (ft i) (ft j)=true)->Sim.drawOK before (revF ft m) m=true
 |0,_=>rfl
 |m+1,h=>by
  simp only[revF,Sim.drawOK,oF1,lU1]
  exact⟨lK (h m (by omega)),nP (fun j a=>h j (by omega))⟩
theorem eM1 (h:List Ent):Sim.hide [] h=h:=rfl
theorem Tr.foot (F:dr≠0) {before ks:List Nat}:∀{os:List Sim.Op1} {σ τ:St} {fs:List Foot},Tr T N dr lim os σ fs τ->∀(j:Nat) (ft:Nat->Foot),
  (∀(i:Nat),i<fs.length->fs[i]? =some (ft (j+i)))->(∀(i:Nat) (o:Sim.Op1),os[i]? =some o->ks[j+i]? =some (cls N dr o.k))->
  (∀(i l k k':Nat),i<l->ks[i]? =some k->ks[l]? =some k'->k'=3\/k'=4->(before.getD l 0).testBit i=true\/gL k k'=true)->(∀i k,i<j->ks[i]? =some k->iT k (ft i))->(∀i,i<j->∃k,ks[i]? =some k/\k<=5)->
  ∃D,∀d,D<=d->bN T (exec T d) lim before os j (revF ft j) σ=some (τ,revF ft (j+os.length)):=by
 intro os σ τ fs h
 induction h with
 |nil=>intro j ft _ _ _ _ _;exact⟨0,fun d _=>rfl⟩
 |@skip o os σ τ fs hw h ih=>
  intro j ft h1 h2 m p q
  have f0:ft j={}:=by have:=h1 0 (by simp);simpa using this.symm
  obtain⟨D,r⟩:=ih (j+1) ft (fun i hi=>by have:=h1 (i+1) (by simp;omega);simpa[nE1,nW1 1 i]using this) (fun i o y=>by have:=h2 (i+1) o (by simpa using y);simpa[nE1,nW1 1 i]using this) m
   (fun i k hi hk=>by
    by_cases e:i=j
    .subst e;rw[f0];exact .inl rfl
    .exact p i k (by omega) hk)
   (fun i hi=>by
    by_cases e:i=j
    .subst e;exact⟨_,by have:=h2 0 o rfl;simpa using this,lI _ _ _⟩
    .exact q i (by omega))
  refine⟨D,fun d hd=>?_⟩
  simp only[bN,hw]
  have:=r d hd
  rw[revF,f0]at this
  rw[nH1,show j+(os.length+1)=j+1+os.length by omega]
  exact this
 |@op o os σ τ fs xs out hw he hc hd h ih=>
  intro j ft h1 h2 m p q
  have f0:ft j={Sim.foot T o.k xs with al:=List.range' σ.s.n ((out.apply σ.s).n-σ.s.n)}:=by have:=h1 0 (by simp);simpa using this.symm
  obtain⟨D,r⟩:=ih (j+1) ft (fun i hi=>by have:=h1 (i+1) (by simp;omega);simpa[nE1,nW1 1 i]using this) (fun i o y=>by have:=h2 (i+1) o (by simpa using y);simpa[nE1,nW1 1 i]using this) m
   (fun i k hi hk=>by
    by_cases e:i=j
    .subst e
     have:=h2 0 o rfl
     rw[nY1,hk]at this
     cases this
     rw[f0]
     exact bD1 hc hd
    .exact p i k (by omega) hk)
   (fun i hi=>by
    by_cases e:i=j
    .subst e;exact⟨_,by have:=h2 0 o rfl;simpa using this,lI _ _ _⟩
    .exact q i (by omega))
  have C:(Sim.foot T o.k xs).all=0:=by
   cases hk:o.k<;>simp[hk,eO]at hc<;>(rcases xs with _|⟨a,_|⟨b,_|⟨c,t⟩⟩⟩<;>rfl)
  have z:¬(Sim.foot T o.k xs).all=1:=by omega
  have w:¬(Sim.foot T o.k xs).all=3:=by omega
  refine⟨D,fun d E=>?_⟩
  simp only[bN,hw,mW1,he]
  rw[lY1 z,lY1 w,bC1 hc hd]
  simp only
  have:=r d E
  rw[revF,f0]at this
  rw[nH1,show j+(os.length+1)=j+1+os.length by omega]
  exact this
 |@ncall o os σ τ fs xs v s' hw he hf hk hs h ih=>
  intro j ft h1 h2 m p q
  have f0:ft j={Sim.foot T o.k xs with al:=List.range' σ.s.n (s'.n-σ.s.n)}:=by have:=h1 0 (by simp);simpa using this.symm
  obtain⟨D,r⟩:=ih (j+1) ft (fun i hi=>by have:=h1 (i+1) (by simp;omega);simpa[nE1,nW1 1 i]using this) (fun i o y=>by have:=h2 (i+1) o (by simpa using y);simpa[nE1,nW1 1 i]using this) m
   (fun i k hi A=>by
    by_cases e:i=j
    .subst e
     have:=h2 0 o rfl
     rw[nY1,A]at this
     cases this
     rw[f0,hk F]
     exact .inr trivial
    .exact p i k (by omega) A)
   (fun i hi=>by
    by_cases e:i=j
    .subst e;exact⟨_,by have:=h2 0 o rfl;simpa using this,lI _ _ _⟩
    .exact q i (by omega))
  obtain⟨D2,u⟩:=hs
  refine⟨max D D2,fun d hd=>?_⟩
  simp only[bN,hw,mW1,he]
  rw[lY1 (by rw[hf];omega),lY1 (by rw[hf];omega),u d (by omega)]
  simp only
  have:=r d (by omega)
  rw[revF,f0]at this
  rw[nH1,show j+(os.length+1)=j+1+os.length by omega]
  exact this
 |@call o os σ τ fs xs v hw he hc hk3 hf hs h ih=>
  intro j ft h1 h2 m p q
  have f0:ft j={all:=1}:=by have:=h1 0 (by simp);simpa using this.symm
  have x:ks[j]? =some (cls N dr o.k):=by
   have:=h2 0 o rfl
   simpa using this
  obtain⟨D,r⟩:=ih (j+1) ft (fun i hi=>by have:=h1 (i+1) (by simp;omega);simpa[nE1,nW1 1 i]using this) (fun i o y=>by have:=h2 (i+1) o (by simpa using y);simpa[nE1,nW1 1 i]using this) m
   (fun i k hi hk=>by
    by_cases e:i=j
    .subst e
     rw[x]at hk
     cases hk
     rw[f0]
     exact jP (lX hc) _ rfl
    .exact p i k (by omega) hk)
   (fun i hi=>by
    by_cases e:i=j
    .subst e;exact⟨_,x,lI _ _ _⟩
    .exact q i (by omega))
  obtain⟨D2,u⟩:=hs
  have H:Sim.unseen (before.getD j 0) j (revF ft j)=[]:=by
   refine pJ (fun i hi=>?_)
   obtain⟨k,hk,B⟩:=q i hi
   rcases m i j k _ hi hk x (lX hc)with g|g
   .exact .inl g
   .right
    have f:=p i k hi hk
    have G:gL k 3=true:=by
     rcases lX (N:=N) (dr:=dr) hc with e|e
     .rw [e]at g;exact g
     .rw [e]at g;(match k,B,g with|0,_,_=>rfl|1,_,h|2,_,h|3,_,h|4,_,h|5,_,h=>simp[gL,cR]at h)
    rcases f with f|f
    .rw [f]
    .match k,B,G,f with
     |0,_,_,f=>rw[f]
     |1,_,_,f=>exact f.2.1
     |2,_,g,_=>simp[gL,cR]at g
     |3,_,_,f=>rw[f]
     |4,_,g,_=>simp[gL,cR]at g
     |5,_,g,_=>simp[gL,cR]at g
  refine⟨max D D2,fun d hd=>?_⟩
  simp only[bN,hw,mW1,he]
  rw[mA1 (by rw[hf]),H,eM1,u d (by omega) _]
  simp only
  have:=r d (by omega)
  rw[revF,f0]at this
  rw[hf,nH1,show j+(os.length+1)=j+1+os.length by omega]
  exact this
theorem vG {ks before:List Nat} (h:wQ ks before=true):∀(i l k k':Nat),i<l->ks[i]? =some k->ks[l]? =some k'->(before.getD l 0).testBit i=true\/gL k k'=true:=by
 intro i l k k' a hi hl
 simp only[wQ,mB1,List.mem_range,mP1]at h
 have:=h l (lX1.1 hl).1 i a
 simpa[List.getD,hi,hl]using this
theorem Tr.draw (e:dr≠0) {before:List Nat} {os:List Sim.Op1} {σ τ:St} {fs:List Foot} (h:Tr T N dr lim os σ fs τ) (n:wQ (os.map fun o=>cls N dr o.k) before=true):
  ∃D,∀d,D<=d->∃f,bN T (exec T d) lim before os 0 [] σ=some (τ,f)/\Sim.drawOK before f f.length=true:=by
 let ft:Nat->Foot:=fun i=>fs.getD i {}
 have b:∀i,i<fs.length->fs[i]? =some (ft i):=fun i hi=>by simp[ft,hi]
 obtain⟨hl,a⟩:=h.feet e
 have sp:=vG n
 have c:∀(i:Nat) (o:Sim.Op1),os[i]? =some o->(os.map fun o=>cls N dr o.k)[i]? =some (cls N dr o.k):=fun i o m=>by simp[m]
 obtain⟨D,q⟩:=Tr.foot e (before:=before) (ks:=os.map fun o=>cls N dr o.k) h 0 ft (fun i hi=>by rw[nO1];exact b i hi) (fun i o m=>by rw[nO1];exact c i o m)
  (fun i l k k' g h1 h2 _=>sp i l k k' g h1 h2) (fun i k hi=>by omega) (fun i hi=>by omega)
 refine⟨D,fun d hd=>⟨_,q d hd,?_⟩⟩
 rw[nO1,Sim.revF_length]
 refine nP (fun j r i hi=>?_)
 have p:os[j]? =some os[j]:=by simp
 have oi:os[i]? =some (os[i]'(by omega)):=by simp
 rcases sp i j _ _ hi (c i _ oi) (c j _ p)with h1|h1
 .exact .inl h1
 .right
  exact tG (lI _ _ _) (lI _ _ _) h1 (a i _ _ oi (b i (by omega))) (a j _ _ p (b j (by omega)))
def tkR (o:Sim.Op1) (a:Nat):Bool:=match o.k,o.xs with
 |.loadS,[.t b]=>Nat.beq b a
 |.loadA _,[.t b]=>Nat.beq b a
 |.slc ..,.t b::_=>Nat.beq b a
 |_,_=>false
def tkM (o:Sim.Op1):Bool:=match o.k with
 |.buildSl .. |.append .. =>true
 |_=>false
def tkW (o:Sim.Op1) (a:Nat):Bool:=match o.k,o.xs with
 |.store _,[.t b,_]=>Nat.beq b a
 |.mapup ..,[.t b,_,_]=>Nat.beq b a
 |_,_=>false
def tkN (o:Sim.Op1) (a:Nat):Bool:=match o.k,o.dst with
 |.buildSl ..,some d=>Nat.beq d a
 |.append ..,some d=>Nat.beq d a
 |_,_=>false
def dstB (a:Nat) (o:Sim.Op1):Bool:=match o.dst with
 |some d=> !Nat.beq d a
 |none=>true
def hU1 (o:Sim.Op1) (d:Nat):Option Nat:=match o.k,o.xs,o.dst,o.guard with
 |.append ..,.t b::_,some d',none=>if Nat.beq b d=true then some d' else none
 |_,_,_,_=>none
def qU:List Sim.Op1->Nat->Nat->Bool
 |[],d,a=>Nat.beq d a
 |o::os,d,a=>(dstB d o&&qU os d a)||(match hU1 o d with|some d'=>qU os d' a|none=>false)
def tkL (os:List Sim.Op1) (o:Sim.Op1) (i a:Nat):Bool:=match o.dst with
 |some d=>tkN o d&&qU (os.drop (i+1)) d a
 |none=>false
def tkS (o:Sim.Op1) (a:Nat):Bool:=match o.k,o.dst with
 |.slc ..,some d=>Nat.beq d a
 |_,_=>false
def exOK (os:List Sim.Op1) (p:Nat×Nat×Nat×Nat):Bool:=match os[p.1]?,os[p.2.1]? with
 |some o,some q=>((os.drop p.2.1).all (dstB p.2.2.2)&&((tkR o p.2.2.1&&(os.drop p.1).all (dstB p.2.2.1)&&tkW q p.2.2.2)||(tkN o p.2.2.1&&(os.drop (p.1+1)).all (dstB p.2.2.1)&&tkR q p.2.2.2)||(Nat.beq p.2.2.1 p.2.2.2&&tkM o&&tkR q p.2.2.2)||(tkL os o p.1 p.2.2.1&&tkR q p.2.2.2)))||(tkR o p.2.2.1&&(os.drop p.1).all (dstB p.2.2.1)&&(tkN q p.2.2.2&&(os.drop (p.2.1+1)).all (dstB p.2.2.2)))||(tkS o p.2.2.1&&(os.drop (p.1+1)).all (dstB p.2.2.1)&&(tkW q p.2.2.2&&(os.drop p.2.1).all (dstB p.2.2.2)))
 |_,_=>false
def eN1 (ks before:List Nat) (ex:List (Nat×Nat×Nat×Nat)):Bool:=
 (List.range ks.length).all fun j=>(List.range j).all fun i=>(before.getD j 0).testBit i||gL (ks.getD i 4) (ks.getD j 4)||ex.any fun p=>Nat.beq p.1 i&&Nat.beq p.2.1 j
theorem iU {t:List AV} {o:Sim.Op1} {a:Nat} {v:AV} (h:dstB a o=true):(put t o.dst v)[a]? =t[a]? :=by
 unfold dstB at h
 unfold put
 split
 .rename_i d hd
  rw[hd]at h
  simp only[mO1,aS,nF1]at h
  rw[mM1 h]
 .rfl
theorem Tr.keep {os:List Sim.Op1} {σ τ:St} {fs:List Foot} (h:Tr T N dr lim os σ fs τ) {a:Nat} (b:os.all (dstB a)=true):τ.t[a]? =σ.t[a]? :=by
 induction h with
 |nil=>rfl
 |skip hw h ih=>simp only[nQ1,lU1]at b;rw[ih b.2,iU b.1]
 |op hw he hc hd h ih=>simp only[nQ1,lU1]at b;rw[ih b.2,iU b.1]
 |call hw he hc hk hf hs h ih=>simp only[nQ1,lU1]at b;rw[ih b.2,iU b.1]
 |ncall hw he hf hk hs h ih=>simp only[nQ1,lU1]at b;rw[ih b.2,iU b.1]
theorem lH1 {L:Nat->Option AO} {n:Nat} {o:Sim.Op1} {a:Nat} {xs:List AV} {out:Out} (hk:tkW o a=true) (h:doOp L lim n o.k xs=some out):out.new=none:=by
 unfold tkW at hk
 split at hk
 .rename_i h1 h2
  rw[h1]at h
  unfold doOp at h
  repeat' split at h
  all_goals first|(cases h;done)|(cases h;rfl)|simp_all
 .rename_i h1 h2
  rw[h1]at h
  unfold doOp at h
  repeat' split at h
  all_goals first|(cases h;done)|(cases h;rfl)|simp_all
 .cases hk
theorem evs1 {t:List AV} {b:Nat} {r:List IX} {xs:List AV} (h:Sim.evs t (.t b::r)=some xs):∃y ys,xs=y::ys/\t[b]? =some y/\Sim.evs t r=some ys:=by
 simp only[Sim.evs,Sim.IX.ev]at h
 split at h
 .rename_i a as h1 h2;cases h;exact⟨a,as,rfl,h1,h2⟩
 .cases h
theorem kL {s:Hp} {out:Out} {x:AO} (h:out.new=some x):List.range' s.n ((out.apply s).n-s.n)=[s.n]:=by
 have:(out.apply s).n=s.n+1:=by unfold Out.apply;rw[h]
 rw[this,Nat.add_sub_cancel_left];rfl
def TchR (f:Foot) (τ:St) (a:Nat):Prop:=f={}\/∀y,τ.t[a]? =some y->f.rd=Sim.idOf y/\f.wr=[]/\f.al=[]/\f.all=0
def TchW (f:Foot) (τ:St) (a:Nat):Prop:=f={}\/∀y,τ.t[a]? =some y->f.wr=Sim.idOf y/\f.rd=[]/\f.al=[]/\f.all=0
def TchN (f:Foot) (τ:St) (a:Nat):Prop:=f={}\/∀y,τ.t[a]? =some y->f.all=0/\(∀x∈f.wr,x∈Sim.idOf y)/\∀x∈f.al,x∈Sim.idOf y
theorem yO {L:Nat->Option AO} {n ty esz:Nat} {s:AV} {new:List (List AV)} {out:Out} (h:Sim.appendTo L lim n ty esz s new=some out):
  (∀x∈Sim.idOf s,x∈Sim.idOf out.v)/\(out.new=none\/Sim.idOf out.v=[n]):=by
 unfold Sim.appendTo at h
 repeat' split at h
 all_goals first|(cases h;done)|(cases h;exact⟨fun x a=>a,.inl rfl⟩)|(cases h;exact⟨fun x a=>by simp[Sim.idOf]at a,.inr rfl⟩)
theorem vH {L:Nat->Option AO} {n:Nat} {o:Sim.Op1} {a:Nat} {xs:List AV} {out:Out} (hk:tkN o a=true) (h:doOp L lim n o.k xs=some out):
  (foot T o.k xs).all=0/\(∀x∈(foot T o.k xs).wr,x∈Sim.idOf out.v)/\(out.new=none\/Sim.idOf out.v=[n])/\o.dst=some a:=by
 unfold tkN at hk
 split at hk
 .rename_i d h1 h2
  rw[h1]at h ⊢
  rw[h2,mI1 hk]
  refine⟨by rcases xs with _|⟨p,_|⟨q,_|⟨r,t⟩⟩⟩<;>rfl,fun x e=>by rcases xs with _|⟨p,_|⟨q,_|⟨r,t⟩⟩⟩<;>simp[foot]at e,.inr ?_,rfl⟩
  unfold doOp at h
  simp only[lV1]at h
  obtain⟨cs,_,rfl⟩:=h
  rfl
 .rename_i d h1 h2
  rw[h1]at h ⊢
  rcases xs with _|⟨p,_|⟨q,_|⟨r,t⟩⟩⟩
  .simp [doOp]at h
  .simp [doOp]at h
  .simp only[doOp]at h
   split at h
   .split at h
    .rename_i o' c
     have:=yO c
     have b:out=o':=by
      split at h
      .split at h
       .cases h;rfl
       .cases h
      .cases h;rfl
     subst b
     exact⟨rfl,this.1,this.2,by rw[h2,mI1 hk]⟩
    .cases h
   .cases h
  .simp [doOp]at h
 .cases hk
theorem kI1 {o:Sim.Op1} {a:Nat} {σ:St} {xs:List AV} (hk:tkR o a=true) (he:Sim.evs σ.t o.xs=some xs):∃y,σ.t[a]? =some y/\foot T o.k xs={rd:=Sim.idOf y}/\cls N dr o.k<=1:=by
 unfold tkR at hk
 split at hk
 .rename_i b h1 h2
  rw[h2]at he
  obtain⟨y,ys,rfl,d,c⟩:=evs1 he
  simp only[Sim.evs,lZ1]at c
  subst c
  rw[h1,<-mI1 hk]
  exact⟨y,d,rfl,by simp[cls]⟩
 .rename_i b h1 h2
  rw[h2]at he
  obtain⟨y,ys,rfl,d,c⟩:=evs1 he
  simp only[Sim.evs,lZ1]at c
  subst c
  rw[h1,<-mI1 hk]
  exact⟨y,d,rfl,by simp[cls]⟩
 .rename_i b _ h1 h2
  rw[h2]at he
  obtain⟨y,ys,rfl,d,c⟩:=evs1 he
  rw[h1,<-mI1 hk]
  exact⟨y,d,rfl,by simp[cls]⟩
 .cases hk
theorem kJ1 {o:Sim.Op1} {a:Nat} {σ:St} {xs:List AV} (hk:tkW o a=true) (he:Sim.evs σ.t o.xs=some xs):∃y,σ.t[a]? =some y/\foot T o.k xs={wr:=Sim.idOf y}:=by
 unfold tkW at hk
 split at hk
 .rename_i b c h1 h2
  rw[h2]at he
  obtain⟨y,ys,rfl,e,f⟩:=evs1 he
  rw[h1,<-mI1 hk]
  exact⟨y,e,rfl⟩
 .rename_i b c d h1 h2
  rw[h2]at he
  obtain⟨y,ys,rfl,e,f⟩:=evs1 he
  rw[h1,<-mI1 hk]
  exact⟨y,e,rfl⟩
 .cases hk
theorem jE {o:Sim.Op1} {a:Nat} (h:tkR o a=true\/tkW o a=true\/tkN o a=true):eO o.k=false/\∀xs,(foot T o.k xs).all=0:=by
 have key:∀k:OpK,(k=.loadS\/(∃n,k=.loadA n)\/(∃n,k=.store n)\/(∃a b,k=.mapup a b)\/(∃a b c d e,k=.buildSl a b c d e)\/(∃a b c d e,k=.append a b c d e)\/∃a b c d,k=.slc a b c d)->eO k=false/\∀xs,(foot T k xs).all=0:=by
  intro k hk
  rcases hk with rfl|⟨_,rfl⟩|⟨_,rfl⟩|⟨_,_,rfl⟩|⟨_,_,_,_,_,rfl⟩|⟨_,_,_,_,_,rfl⟩|⟨_,_,_,_,rfl⟩<;>
   exact⟨rfl,fun xs=>by rcases xs with _|⟨p,_|⟨q,_|⟨r,t⟩⟩⟩<;>rfl⟩
 refine key _ ?_
 rcases h with h|h|h
 .unfold tkR at h;split at h
  .rename_i h1 _;exact .inl h1
  .rename_i h1 _;exact .inr (.inl ⟨_,h1⟩)
  .rename_i h1 _;exact .inr (.inr (.inr (.inr (.inr (.inr ⟨_,_,_,_,h1⟩)))))
  .cases h
 .unfold tkW at h;split at h
  .rename_i h1 _;exact .inr (.inr (.inl ⟨_,h1⟩))
  .rename_i h1 _;exact .inr (.inr (.inr (.inl ⟨_,_,h1⟩)))
  .cases h
 .unfold tkN at h;split at h
  .rename_i h1 _;exact .inr (.inr (.inr (.inr (.inl ⟨_,_,_,_,_,h1⟩))))
  .rename_i h1 _;exact .inr (.inr (.inr (.inr (.inr (.inl ⟨_,_,_,_,_,h1⟩)))))
  .cases h
theorem Tr.touch {os:List Sim.Op1} {σ τ:St} {fs:List Foot} (h:Tr T N dr lim os σ fs τ):∀(i:Nat) (o:Sim.Op1) (f:Foot) (a:Nat),os[i]? =some o->fs[i]? =some f->
  (tkR o a=true->(os.drop i).all (dstB a)=true->TchR f τ a)/\(tkW o a=true->(os.drop i).all (dstB a)=true->TchW f τ a)/\(tkN o a=true->(os.drop (i+1)).all (dstB a)=true->TchN f τ a):=by
 induction h with
 |nil=>intro i o f a h;simp at h
 |skip hw h ih=>
  intro i o f a h1 h2
  cases i with
  |zero=>simp at h1 h2;subst h1;subst h2;exact⟨fun _ _=>.inl rfl,fun _ _=>.inl rfl,fun _ _=>.inl rfl⟩
  |succ i=>simp at h1 h2;simpa using ih i o f a h1 h2
 |@op o os σ τ fs xs out hw he hc hd h ih=>
  intro i o' f a h1 h2
  cases i with
  |zero=>
   simp at h1 h2;subst h1;subst h2
   refine⟨fun hk hb=>?_,fun hk hb=>?_,fun hk hb=>?_⟩
   .simp only[nJ1,nQ1,lU1]at hb
    obtain⟨y,j,d,e⟩:=kI1 (T:=T) (N:=N) (dr:=dr) hk he
    refine .inr (fun z b=>?_)
    rw[h.keep hb.2,iU hb.1,j]at b
    cases b
    exact⟨by rw[d],by rw[d],lJ (kH1 hd e),by rw[d]⟩
   .simp only[nJ1,nQ1,lU1]at hb
    obtain⟨y,j,d⟩:=kJ1 (T:=T) hk he
    refine .inr (fun z b=>?_)
    rw[h.keep hb.2,iU hb.1,j]at b
    cases b
    exact⟨by rw[d],by rw[d],lJ (lH1 hk hd),by rw[d]⟩
   .obtain ⟨j,d,e,m⟩:=vH (T:=T) hk hd
    have hb:os.all (dstB a)=true:=by simpa using hb
    have g:∀z,(put σ.t o.dst out.v)[a]? =some z->z=out.v:=fun z b=>by
     rw[m]at b
     simp only[put,mN1]at b
     split at b
     .split at b
      .cases b;rfl
      .cases b
     .rename_i l;exact(l trivial).elim
    refine .inr (fun z b=>?_)
    rw[h.keep hb]at b
    have:=g z b
    subst this
    refine⟨j,d,fun x c=>?_⟩
    rcases e with e|e
    .have:=lJ (s:=σ.s) e
     simp only at c
     rw[this]at c;simp at c
    .cases hn:out.new with
     |none=>
      have:=lJ (s:=σ.s) hn
      simp only at c
      rw[this]at c;simp at c
     |some w=>
      simp only at c
      rw[kL hn]at c
      rw[e];exact c
  |succ i=>simp at h1 h2;simpa using ih i o' f a h1 h2
 |@call o os σ τ fs xs v hw he hc hk hf hs h ih=>
  intro i o' f a h1 h2
  cases i with
  |zero=>
   simp at h1 h2;subst h1;subst h2
   have no:¬(tkR o a=true\/tkW o a=true\/tkN o a=true):=fun k=>by have:=(jE (T:=T) k).1;rw[hc]at this;cases this
   exact⟨fun hk _=>absurd (.inl hk) no,fun hk _=>absurd (.inr (.inl hk)) no,fun hk _=>absurd (.inr (.inr hk)) no⟩
  |succ i=>simp at h1 h2;simpa using ih i o' f a h1 h2
 |@ncall o os σ τ fs xs v s' hw he hf hk hs h ih=>
  intro i o' f a h1 h2
  cases i with
  |zero=>
   simp at h1 h2;subst h1;subst h2
   have no:¬(tkR o a=true\/tkW o a=true\/tkN o a=true):=fun k=>by have:=(jE (T:=T) k).2 xs;rw[hf]at this;cases this
   exact⟨fun hk _=>absurd (.inl hk) no,fun hk _=>absurd (.inr (.inl hk)) no,fun hk _=>absurd (.inr (.inr hk)) no⟩
  |succ i=>simp at h1 h2;simpa using ih i o' f a h1 h2
theorem hV1 {L:Nat->Option AO} {n e:Nat} {lo hi mx:Bool} {xs:List AV} {out:Out} (h:doOp L lim n (.slc e lo hi mx) xs=some out):∃y,foot T (.slc e lo hi mx) xs={rd:=Sim.idOf y}/\Sim.idOf out.v=Sim.idOf y/\out.new=none:=by
 cases xs with
 |nil=>simp[doOp,Sim.sliceOp]at h
 |cons y ys=>
  refine⟨y,rfl,?_⟩
  have h2:(Sim.sliceOp L e lo hi mx (y::ys)).map (fun v=>({v:=v}:Out))=some out:=h
  clear h
  rw[lV1]at h2
  obtain⟨v,a,rfl⟩:=h2
  refine⟨?_,rfl⟩
  cases y<;>simp only[Sim.sliceOp]at a<;>(repeat' split at a)<;>first|(cases a;done)|(cases a;rfl)|(simp at a;done)|(simp at a;subst a;simp_all[Sim.idOf])
theorem Tr.touchS {os:List Sim.Op1} {σ τ:St} {fs:List Foot} (h:Tr T N dr lim os σ fs τ):∀(i:Nat) (o:Sim.Op1) (f:Foot) (a:Nat),os[i]? =some o->fs[i]? =some f->tkS o a=true->(os.drop (i+1)).all (dstB a)=true->TchR f τ a:=by
 induction h with
 |nil=>intro i o f a h;simp at h
 |skip hw h ih=>
  intro i o f a h1 h2 hk hb
  cases i with
  |zero=>simp at h1 h2;subst h1;subst h2;exact .inl rfl
  |succ i=>simp at h1 h2;exact ih i o f a h1 h2 hk (by simpa using hb)
 |@op o os σ τ fs xs out hw he hc hd h ih=>
  intro i o' f a h1 h2 hk hb
  cases i with
  |zero=>
   simp at h1 h2;subst h1;subst h2
   unfold tkS at hk
   split at hk
   .rename_i d q1 q2
    rw[q1]at hd
    obtain⟨y,g,j,k⟩:=hV1 (T:=T) hd
    have hb:os.all (dstB a)=true:=by simpa using hb
    have c:∀z,(put σ.t o.dst out.v)[a]? =some z->z=out.v:=fun z b=>by
     rw[q2,mI1 hk]at b
     simp only[put,mN1]at b
     split at b
     .split at b
      .cases b;rfl
      .cases b
     .rename_i e;exact(e trivial).elim
    refine .inr (fun z b=>?_)
    rw[h.keep hb]at b
    have:=c z b
    subst this
    rw[q1]
    exact⟨by rw[g,j],by rw[g],lJ k,by rw[g]⟩
   .cases hk
  |succ i=>simp at h1 h2;exact ih i o' f a h1 h2 hk (by simpa using hb)
 |@call o os σ τ fs xs v hw he hc hk' hf hs h ih=>
  intro i o' f a h1 h2 hk hb
  cases i with
  |zero=>
   simp at h1 h2;subst h1;subst h2
   unfold tkS at hk
   split at hk
   .rename_i d q1 q2
    rw[q1]at hc
    cases hc
   .cases hk
  |succ i=>simp at h1 h2;exact ih i o' f a h1 h2 hk (by simpa using hb)
 |@ncall o os σ τ fs xs v s' hw he hf hk' hs h ih=>
  intro i o' f a h1 h2 hk hb
  cases i with
  |zero=>
   simp at h1 h2;subst h1;subst h2
   unfold tkS at hk
   split at hk
   .rename_i d q1 q2
    rw[q1]at hf
    rcases xs with _|⟨x,t⟩<;>exact absurd (show(0:Nat)=2 from hf) (by decide)
   .cases hk
  |succ i=>simp at h1 h2;exact ih i o' f a h1 h2 hk (by simpa using hb)
theorem iG {o:Sim.Op1} {d a:Nat} (h:hU1 o d=some a):o.guard=none/\o.dst=some a/\tkN o a=true/\∃ty es b zero g r,o.k=.append ty es b zero g/\o.xs=.t d::r:=by
 unfold hU1 at h
 split at h
 .rename_i h1 h2 c e
  split at h
  .rename_i hb
   cases h
   refine⟨e,c,?_,_,_,_,_,_,_,h1,by rw[h2,mI1 hb]⟩
   unfold tkN
   rw[h1,c]
   exact Nat.beq_refl _
  .cases h
 .cases h
theorem Tr.flow {os:List Sim.Op1} {σ τ:St} {fs:List Foot} (h:Tr T N dr lim os σ fs τ):∀(d a:Nat),qU os d a=true->∀z,τ.t[a]? =some z->∃y,σ.t[d]? =some y/\∀x∈Sim.idOf y,x∈Sim.idOf z:=by
 induction h with
 |nil=>
  intro d a hf z c
  simp only[qU]at hf
  rw[mI1 hf]
  exact⟨z,c,fun x i=>i⟩
 |@skip o os σ τ fs hw h ih=>
  intro d a hf z c
  simp only[qU,mP1,lU1]at hf
  rcases hf with hf|hf
  .obtain ⟨y,h1,h2⟩:=ih d a hf.2 z c
   exact⟨y,by rw[<-h1];exact(iU hf.1).symm,h2⟩
  .split at hf
   .rename_i e hs
    rw[(iG hs).1]at hw
    simp[Sim.wanted]at hw
   .cases hf
 |@op o os σ τ fs xs out hw he hc hd h ih=>
  intro d a hf z c
  simp only[qU,mP1,lU1]at hf
  rcases hf with hf|hf
  .obtain ⟨y,h1,h2⟩:=ih d a hf.2 z c
   exact⟨y,by rw[<-h1];exact(iU hf.1).symm,h2⟩
  .split at hf
   .rename_i e hs
    obtain⟨q1,q2,q3,ty,es,b,zero,g,r,q4,q5⟩:=iG hs
    obtain⟨l,h1,h2⟩:=ih e a hf z c
    obtain⟨m,k,n,p⟩:=vH (T:=T) q3 hd
    have hv:l=out.v:=by
     have c:=h1
     simp only at c
     rw[q2]at c
     simp only[put,mN1]at c
     split at c
     .split at c
      .cases c;rfl
      .cases c
     .rename_i f;exact(f trivial).elim
    subst hv
    rw[q5]at he
    obtain⟨y,ys,rfl,j,e2⟩:=evs1 he
    refine⟨y,j,fun x i=>h2 x (k x ?_)⟩
    rw[q4]at hd ⊢
    rcases ys with _|⟨w,_|⟨w2,ws⟩⟩
    .simp [doOp]at hd
    .exact i
    .simp [doOp]at hd
   .cases hf
 |@call o os σ τ fs xs v hw he hc hk hff hs h ih=>
  intro d a hf z c
  simp only[qU,mP1,lU1]at hf
  rcases hf with hf|hf
  .obtain ⟨y,h1,h2⟩:=ih d a hf.2 z c
   exact⟨y,by rw[<-h1];exact(iU hf.1).symm,h2⟩
  .split at hf
   .rename_i e hs
    have:=(jE (T:=T) (.inr (.inr (iG hs).2.2.1))).1
    rw[hc]at this;cases this
   .cases hf
 |@ncall o os σ τ fs xs v s' hw he hff hk hs h ih=>
  intro d a hf z c
  simp only[qU,mP1,lU1]at hf
  rcases hf with hf|hf
  .obtain ⟨y,h1,h2⟩:=ih d a hf.2 z c
   exact⟨y,by rw[<-h1];exact(iU hf.1).symm,h2⟩
  .split at hf
   .rename_i e hs
    have:=(jE (T:=T) (.inr (.inr (iG hs).2.2.1))).2 xs
    rw[hff]at this;cases this
   .cases hf
theorem Tr.touchL {os:List Sim.Op1} {σ τ:St} {fs:List Foot} (h:Tr T N dr lim os σ fs τ):∀(i:Nat) (o:Sim.Op1) (f:Foot) (a:Nat),os[i]? =some o->fs[i]? =some f->tkL os o i a=true->TchN f τ a:=by
 induction h with
 |nil=>intro i o f a h;simp at h
 |skip hw h ih=>
  intro i o f a h1 h2 hk
  cases i with
  |zero=>simp at h1 h2;subst h1;subst h2;exact .inl rfl
  |succ i=>simp at h1 h2;exact ih i o f a h1 h2 (by simpa[tkL]using hk)
 |@op o os σ τ fs xs out hw he hc hd h ih=>
  intro i o' f a h1 h2 hk
  cases i with
  |zero=>
   simp at h1 h2;subst h1;subst h2
   unfold tkL at hk
   split at hk
   .rename_i d g
    simp only[lU1,List.drop_succ_cons,nJ1]at hk
    obtain⟨m,n,j,q⟩:=vH (T:=T) hk.1 hd
    refine .inr (fun z e=>?_)
    obtain⟨y,p,l⟩:=h.flow d a hk.2 z e
    have hv:y=out.v:=by
     have e:=p
     simp only at e
     rw[g]at e
     simp only[put,mN1]at e
     split at e
     .split at e
      .cases e;rfl
      .cases e
     .rename_i k;exact(k trivial).elim
    subst hv
    refine⟨m,fun x c=>l x (n x c),fun x c=>l x ?_⟩
    rcases j with j|j
    .have:=lJ (s:=σ.s) j
     simp only at c
     rw[this]at c;simp at c
    .cases hn:out.new with
     |none=>
      have:=lJ (s:=σ.s) hn
      simp only at c
      rw[this]at c;simp at c
     |some w=>
      simp only at c
      rw[kL hn]at c
      rw[j];exact c
   .cases hk
  |succ i=>simp at h1 h2;exact ih i o' f a h1 h2 (by simpa[tkL]using hk)
 |@call o os σ τ fs xs v hw he hc hk hf hs h ih=>
  intro i o' f a h1 h2 b
  cases i with
  |zero=>
   simp at h1 h2;subst h1;subst h2
   unfold tkL at b
   split at b
   .simp only[lU1]at b
    have:=(jE (T:=T) (.inr (.inr b.1))).1
    rw[hc]at this;cases this
   .cases b
  |succ i=>simp at h1 h2;exact ih i o' f a h1 h2 (by simpa[tkL]using b)
 |@ncall o os σ τ fs xs v s' hw he hf hk hs h ih=>
  intro i o' f a h1 h2 b
  cases i with
  |zero=>
   simp at h1 h2;subst h1;subst h2
   unfold tkL at b
   split at b
   .simp only[lU1]at b
    have:=(jE (T:=T) (.inr (.inr b.1))).2 xs
    rw[hf]at this;cases this
   .cases b
  |succ i=>simp at h1 h2;exact ih i o' f a h1 h2 (by simpa[tkL]using b)
def eO1 (τ:St) (p:Nat×Nat×Nat×Nat):Prop:=∃y z,τ.t[p.2.2.1]? =some y/\τ.t[p.2.2.2]? =some z/\∀x∈Sim.idOf y,x∉Sim.idOf z
theorem eW {f g:Foot} {τ:St} {p:Nat×Nat×Nat×Nat} (h:(TchR f τ p.2.2.1/\TchW g τ p.2.2.2)\/(TchN f τ p.2.2.1/\TchR g τ p.2.2.2)) (m:eO1 τ p):Sim.compat0 f g=true:=by
 obtain⟨y,z,hy,l,hd⟩:=m
 rcases h with⟨h1,h2⟩|⟨h1,h2⟩
 .rcases h2 with rfl|h2
  .rcases h1 with rfl|h1
   .rfl
   .obtain ⟨a,b,c,d⟩:=h1 y hy
    simp[Sim.compat0,b,c,d]
  .obtain ⟨a',b',k,j⟩:=h2 z l
   rcases h1 with rfl|h1
   .simp [Sim.compat0,j]
   .obtain ⟨a,b,c,d⟩:=h1 y hy
    have:∀x∈g.wr,x∉f.rd:=fun x i e=>by rw[a]at e;rw[a']at i;exact hd x e i
    simpa[Sim.compat0,b,c,d,b',k,j]using this
 .rcases h2 with rfl|h2
  .rcases h1 with rfl|h1
   .rfl
   .obtain ⟨a,b,c⟩:=h1 y hy
    simp[Sim.compat0,a]
  .obtain ⟨a',b',k,j⟩:=h2 z l
   rcases h1 with rfl|h1
   .simp [Sim.compat0,j]
   .obtain ⟨a,b,c⟩:=h1 y hy
    have n:∀x∈f.wr,x∉g.rd:=fun x i e=>by rw[a']at e;exact hd x (b x i) e
    have o:∀x∈f.al,x∉g.rd:=fun x i e=>by rw[a']at e;exact hd x (c x i) e
    simpa[Sim.compat0,a,b',k,j]using And.intro n o
theorem bE1 {f g:Foot} {τ:St} {p:Nat×Nat×Nat×Nat} (h1:TchR f τ p.2.2.1) (h2:TchN g τ p.2.2.2) (j:eO1 τ p):Sim.compat0 f g=true:=by
 obtain⟨y,z,hy,h,hd⟩:=j
 rcases h1 with rfl|h1
 .rcases h2 with rfl|h2
  .rfl
  .obtain ⟨a',b',i⟩:=h2 z h
   simp[Sim.compat0,a']
 .obtain ⟨a,b,c,d⟩:=h1 y hy
  rcases h2 with rfl|h2
  .simp [Sim.compat0,b,c,d]
  .obtain ⟨a',b',i⟩:=h2 z h
   have:∀x∈g.wr,x∉f.rd:=fun x k e=>by rw[a]at e;exact hd x e (b' x k)
   simpa[Sim.compat0,b,c,d,a']using this
theorem yP {ks before:List Nat} {ex:List (Nat×Nat×Nat×Nat)} (h:eN1 ks before ex=true):∀(i l k k':Nat),i<l->ks[i]? =some k->ks[l]? =some k'->((before.getD l 0).testBit i=true\/gL k k'=true)\/∃p∈ex,p.1=i/\p.2.1=l:=by
 intro i l k k' a hi hl
 simp only[eN1,mB1,List.mem_range,mP1,List.any_eq_true,lU1]at h
 rcases h l (lX1.1 hl).1 i a with h1|⟨p,h1,h2,h3⟩
 .exact .inl (by simpa[List.getD,hi,hl]using h1)
 .exact .inr ⟨p,h1,mI1 h2,mI1 h3⟩
theorem Tr.drawX (w:dr≠0) {before:List Nat} {ex:List (Nat×Nat×Nat×Nat)} {os:List Sim.Op1} {σ τ:St} {fs:List Foot} (h:Tr T N dr lim os σ fs τ) (K:eN1 (os.map fun o=>cls N dr o.k) before ex=true)
  (F:ex.all (exOK os)=true) (m:∀p∈ex,eO1 τ p):
  ∃D,∀d,D<=d->∃C,bN T (exec T d) lim before os 0 [] σ=some (τ,C)/\Sim.drawOK before C C.length=true:=by
 let ft:Nat->Foot:=fun i=>fs.getD i {}
 have f:∀i,i<fs.length->fs[i]? =some (ft i):=fun i hi=>by simp[ft,hi]
 obtain⟨hl,g⟩:=h.feet w
 have sp:=yP K
 have s:∀(i:Nat) (o:Sim.Op1),os[i]? =some o->(os.map fun o=>cls N dr o.k)[i]? =some (cls N dr o.k):=fun i o J=>by simp[J]
 have B:∀p∈ex,∃o q,os[p.1]? =some o/\os[p.2.1]? =some q/\exOK os p=true:=by
  intro p hp
  have:=mB1.1 F p hp
  have h2:=this
  unfold exOK at h2
  split at h2
  .rename_i o q r P;exact⟨o,q,r,P,this⟩
  .cases h2
 obtain⟨D,R⟩:=Tr.foot w (before:=before) (ks:=os.map fun o=>cls N dr o.k) h 0 ft (fun i hi=>by rw[nO1];exact f i hi) (fun i o J=>by rw[nO1];exact s i o J)
  (fun i l k k' G h1 h2 H=>by
   rcases sp i l k k' G h1 h2 with r|⟨p,hp,rfl,rfl⟩
   .exact r
   .exfalso
    obtain⟨o,q,u,e2,e⟩:=B p hp
    rw[s _ _ e2]at h2
    cases h2
    unfold exOK at e
    rw[u,e2]at e
    simp only[lU1,mP1]at e
    have S:tkR q p.2.2.2=true\/tkW q p.2.2.2=true\/tkN q p.2.2.2=true:=by
     rcases e with(e|e)|e
     .rcases e.2 with((h|h)|h)|h
      .exact .inr (.inl h.2)
      .exact .inl h.2
      .exact .inl h.2
      .exact .inl h.2
     .exact .inr (.inr e.2.1)
     .exact .inr (.inl e.2.1)
    have hc:=(jE (T:=T) S).1
    revert H hc
    cases q.k
    case len n=>simp only[cls];cases Nat.beq n 2<;>simp
    all_goals simp[cls,eO]) (fun i k hi=>by omega) (fun i hi=>by omega)
 refine⟨D,fun d hd=>⟨_,R d hd,?_⟩⟩
 rw[nO1,Sim.revF_length]
 refine nP (fun j U i hi=>?_)
 have O:os[j]? =some os[j]:=by simp
 have oi:os[i]? =some (os[i]'(by omega)):=by simp
 rcases sp i j _ _ hi (s i _ oi) (s j _ O)with(h1|h1)|⟨p,hp,rfl,rfl⟩
 .exact .inl h1
 .right
  exact tG (lI _ _ _) (lI _ _ _) h1 (g i _ _ oi (f i (by omega))) (g j _ _ O (f j (by omega)))
 .right
  obtain⟨o,q,u,e2,e⟩:=B p hp
  unfold exOK at e
  rw[u,e2]at e
  simp only[lU1,mP1]at e
  have L:=h.touch p.1 o _ p.2.2.1 u (f p.1 (by omega))
  have v:=h.touch p.2.1 q _ p.2.2.2 e2 (f p.2.1 (by omega))
  rcases e with(e|e)|e
  case inr.inr=>exact dE<|eW (.inl ⟨h.touchS p.1 o _ p.2.2.1 u (f p.1 (by omega)) e.1.1 e.1.2,v.2.1 e.2.1 e.2.2⟩) (m p hp)
  case inr.inl.inr=>exact dE<|bE1 (L.1 e.1.1 e.1.2) (v.2.2 e.2.1 e.2.2) (m p hp)
  rcases e.2 with((⟨⟨h1,h2⟩,r⟩|⟨⟨h1,h2⟩,r⟩)|⟨⟨h1,h2⟩,r⟩)|⟨h1,r⟩
  .exact dE<|eW (.inl ⟨L.1 h1 h2,v.2.1 r e.1⟩) (m p hp)
  .exact dE<|eW (.inr ⟨L.2.2 h1 h2,v.1 r e.1⟩) (m p hp)
  .have E:=mI1 h1
   obtain⟨y,z,hy,M,hd⟩:=m p hp
   rw[E]at hy
   rw[hy]at M
   cases M
   have A:Sim.idOf y=[]:=List.eq_nil_iff_forall_not_mem.2 (fun x B=>hd x B B)
   have t:(ft p.1).all=0:=by
    have hf:=g p.1 o _ u (f p.1 (by omega))
    unfold tkM at h2
    unfold iT at hf
    split at h2
    .rename_i hk
     rw[hk]at hf
     rcases hf with hf|hf
     .rw [hf]
     .exact hf.2.2
    .rename_i hk
     rw[hk]at hf
     rcases hf with hf|hf
     .rw [hf]
     .exact hf
    .cases h2
   rcases v.1 r e.1 with hg|hg
   .refine dE ?_
    rw[hg]
    simp[Sim.compat0,t]
   .obtain ⟨a,b,c,d⟩:=hg y hy
    rw[A]at a
    refine dE ?_
    simp[Sim.compat0,t,a,b,c,d]
  .exact dE<|eW (.inr ⟨h.touchL p.1 o _ p.2.2.1 u (f p.1 (by omega)) h1,v.1 r e.1⟩) (m p hp)
end
end Go.P
namespace Go.P
open Go.Sim (AV AO Hp Ent upd St IC IX Ex OpK CK Wf Out doOp Tab exec mapO fzI fzA fzM)
theorem qV {A:Type} {f:A->Option A}:∀{l:List A},(∀x∈l,f x=some x)->mapO f l=some l
 |[],_=>rfl
 |a::as,h=>by
  have h1:=h a (List.mem_cons_self ..)
  have h2:=qV (f:=f) (l:=as) (fun x b=>h x (oL1 _ b))
  simp only[mapO,h1,h2]
section
variable {L:Nat->Option AO} {n0:Nat}
theorem qW {x:PV} {y:AV} {d:Nat} (h:RC true x y):fzI L n0 (d+1) y=some y:=by
 cases h<;>rfl
theorem wR {Q:PV->AV->Prop} {xs:List PV} {ys:List AV} (h:LR Q xs ys) {y:AV} (hy:y∈ys):∃x,x∈xs/\Q x y:=by
 obtain⟨j,a⟩:=nA1.1 hy
 have b:j<xs.length:=by rw[h.1];exact(lX1.1 a).1
 exact⟨xs[j],by simp,h.2 j _ y (by simp) a⟩
theorem tH {xs:List PV} {ys:List AV} {d:Nat} (h:LR (RC true) xs ys):mapO (fzI L n0 (d+1)) ys=some ys:=
 qV fun y hy=>by
  obtain⟨x,_,a⟩:=wR h hy
  exact qW a
theorem hW1 {rows:List (List PV)} {els:List (List AV)} {d:Nat} (h:RR rows els):mapO (fun row=>mapO (fzI L n0 (d+1)) row) els=some els:=
 qV fun r hr=>by
  obtain⟨j,a⟩:=nA1.1 hr
  have b:j<rows.length:=by rw[h.1];exact(lX1.1 a).1
  exact tH (h.2 j rows[j] r (by simp) a)
theorem eP1 {rows:List (List PV)} {els:List (List AV)} {d e id ver:Nat} {bx:Bool} {ty:TypeId} (c:n0<=id) (a:L id=some (.arr bx ty e ver els)) (hr:RR rows (els.take rows.length)) (b:rows.length<=els.length):
  fzI L n0 (d+2) (.sl e id ver 0 rows.length none)=some (.is e (els.take rows.length)):=by
 have hc:n0<=id/\ver=ver/\0+rows.length<=els.length:=⟨c,rfl,by omega⟩
 show(match L id with
   |some (.arr _ _ e ver' els)=>
    if n0<=id/\ver'=ver/\0+rows.length<=els.length then(mapO (fun row=>mapO (fzI L n0 (d+1)) row) ((els.drop 0).take rows.length)).map fun rows=>AV.is e rows else none
   |_=>none)=_
 rw[a]
 show(if n0<=id/\ver=ver/\0+rows.length<=els.length then(mapO (fun row=>mapO (fzI L n0 (d+1)) row) ((els.drop 0).take rows.length)).map fun rows=>AV.is e rows else none)=_
 rw[mA1 hc,nJ1,hW1 hr]
 rfl
theorem kK1 {Q Q':PV->AV->Prop} {f:AV->Option AV} (hf:∀x y,Q x y->∃b,f y=some b/\Q' x b):∀{xs:List PV} {ys:List AV},LR Q xs ys->∃a,mapO f ys=some a/\LR Q' xs a
 |[],ys,h=>by rw[h.inv_nil];exact⟨[],rfl,.nil⟩
 |x::xs,ys,h=>by
  obtain⟨y,a,rfl,h1,h2⟩:=h.inv_cons
  obtain⟨b,c,d⟩:=hf x y h1
  obtain⟨zs,e,g⟩:=kK1 hf h2
  exact⟨b::zs,by simp only[mapO,c,e],.cons d g⟩
theorem hY1 {z:Nat->Option AO} {d:Nat} {f:AV->Option AV} (hf:∀x y,RZ z d x y->∃g,f y=some g/\RC true x g):∀{rows:List (List PV)} {els:List (List AV)},RRz z d rows els->∃c,mapO (fun row=>mapO f row) els=some c/\RR rows c
 |[],els,h=>by
  have:els=[]:=oT1 h.1.symm
  subst this
  exact⟨[],rfl,.nil⟩
 |r::rows,[],h=>by have:=h.1;simp at this
 |r::rows,e::els,h=>by
  obtain⟨e',k,l⟩:=kK1 hf (h.2 0 r e rfl rfl)
  obtain⟨es',m,n⟩:=hY1 hf (rows:=rows) (els:=els) ⟨by simpa using h.1,fun i a b j hb=>h.2 (i+1) a b (by simpa using j) (by simpa using hb)⟩
  exact⟨e'::es',by simp only[mapO,k,m],.cons l n⟩
theorem eQ1 {z:Nat->Option AO} (g:∀id o,z id=some o->n0<=id/\L id=some o):∀(d f:Nat),d<f->∀(x:PV) (y:AV),RZ z d x y->∃j,fzI L n0 f y=some j/\RC true x j
 |0,f+1,_,x,y,h=>⟨y,qW h,h⟩
 |d+1,f+1,hd,x,y,h=>by
  rcases h with h|⟨e,rows,id,ver,ty,els,rfl,rfl,h3,h4,h5⟩
  .exact ⟨y,qW h,h⟩
  .have ih:=eQ1 g d f (by omega)
   have hr:RRz z d rows (els.take rows.length):=⟨by simp[Nat.min_eq_left h4],fun i r r' a b=>h5 i r r' a (by
    rw[mS1]at b
    split at b
    .exact b
    .cases b)⟩
   obtain⟨c,k,l⟩:=hY1 (f:=fzI L n0 f) (fun x y h=>ih x y h) hr
   obtain⟨z1,z2⟩:=g id _ h3
   refine⟨.is e c,?_,l.is⟩
   show(match L id with
    |some (.arr _ _ e ver' els)=>
     if n0<=id/\ver'=ver/\0+rows.length<=els.length then(mapO (fun row=>mapO (fzI L n0 f) row) ((els.drop 0).take rows.length)).map fun rows=>AV.is e rows else none
    |_=>none)=_
   rw[z2]
   show(if n0<=id/\ver=ver/\0+rows.length<=els.length then(mapO (fun row=>mapO (fzI L n0 f) row) ((els.drop 0).take rows.length)).map fun rows=>AV.is e rows else none)=_
   rw[mA1 ⟨z1,rfl,by omega⟩,nJ1,k]
   rfl
theorem kL1 {z:Nat->Option AO} (g:∀id o,z id=some o->n0<=id/\L id=some o) {d f e id ver ty:Nat} {rows:List (List PV)} {els:List (List AV)} (hd:d<f) (c:n0<=id) (b:L id=some (.arr false ty e ver els)) (hr:RRz z d rows els):
  ∃a,fzI L n0 (f+1) (.sl e id ver 0 rows.length none)=some (.is e a)/\RR rows a:=by
 obtain⟨a,i,j⟩:=hY1 (f:=fzI L n0 f) (fun x y h=>eQ1 g d f hd x y h) hr
 refine⟨a,?_,j⟩
 have hl:=hr.1
 show(match L id with
  |some (.arr _ _ e ver' els)=>
   if n0<=id/\ver'=ver/\0+rows.length<=els.length then(mapO (fun row=>mapO (fzI L n0 f) row) ((els.drop 0).take rows.length)).map fun rows=>AV.is e rows else none
  |_=>none)=_
 rw[b]
 show(if n0<=id/\ver=ver/\0+rows.length<=els.length then(mapO (fun row=>mapO (fzI L n0 f) row) ((els.drop 0).take rows.length)).map fun rows=>AV.is e rows else none)=_
 rw[mA1 ⟨c,rfl,by omega⟩,nJ1,hl,pA1,i]
 rfl
theorem hZ1 {d id ver e o:Nat} {bx:Bool} {ty:TypeId} {esz:Nat} {els:List (List AV)} {row:List AV} (a:L id=some (.arr bx ty esz ver els)) (hr:els[e]? =some row):fzA L (d+1) (.ptr id ver e o)=(mapO (fzA L d) (row.drop o)).map AV.ip:=by
 simp[fzA,a,hr]
theorem kM1 {d:Nat} {f:FuncId} {a b a' b':List AV} (h1:mapO (fzA L d) a=some a') (h2:mapO (fzA L d) b=some b'):fzA L (d+1) (.fn (.func f) a b)=some (.fn (.func f) a' b'):=by
 simp[fzA,h1,h2]
theorem iA1 {d:Nat} {a a':List AV} (h1:mapO (fzA L d) a=some a'):fzA L (d+1) (.agg a)=some (.agg a'):=by
 simp[fzA,h1]
theorem kN1 {x:PV} {y:AV} (h:RK x y):fzM L n0 y=some y:=by
 rcases h with h|⟨cs,cs',rfl,rfl,h⟩
 .cases h<;>rfl
 .simp only[fzM,tH h,mQ1]
theorem gA1 {es:List (PV×PV)} {es':List (AV×AV)} (h:EM es es'):mapO (fun(k,x)=>match fzM L n0 k,fzM L n0 x with|some k,some x=>some (k,x)|_,_=>none) es'=some es':=
 qV fun p hp=>by
  obtain⟨j,c⟩:=nA1.1 hp
  have d:j<es.length:=by rw[h.1];exact(lX1.1 c).1
  obtain⟨h1,h2⟩:=h.2 j es[j] p (by simp) c
  obtain⟨a,b⟩:=p
  simp only[kN1 h1,kN1 h2]
end
section
variable {R:Type} {C:Cx} {n:Nat} {h:Heap} {lim:Nat} {s:Hp}
theorem tJ:∀{d:Nat} {x:PV} {y:AV},bO d x=true->RC false x y->Sim.closed d y=true
 |0,_,_,h,_=>by simp[bO]at h
 |d+1,x,y,hc,hr=>by
  have all:∀{xs:List PV} {ys:List AV},xs.all (bO d)=true->LR (RC false) xs ys->ys.all (Sim.closed d)=true:=by
   intro xs ys c hl
   rw[mB1]
   intro y hy
   obtain⟨x,a,b⟩:=wR hl hy
   exact tJ (mB1.1 c x a) b
  cases hr with
  |fn h1 h2 v1 v2=>
   simp only[bO,lU1]at hc
   simp only[Sim.closed,lU1]
   exact⟨all hc.1 ⟨h1,v1⟩,all hc.2 ⟨h2,v2⟩⟩
  |agg hl hcc=>
   simp only[bO]at hc
   simp only[Sim.closed]
   exact all hc ⟨hl,hcc⟩
  |tup hl hcc=>
   simp only[bO]at hc
   simp only[Sim.closed]
   exact all hc ⟨hl,hcc⟩
  |_=>rfl
def FzR (L:Nat->Option AO) (d:Nat) (a:PV) (y:AV):Prop:=∃b,fzA L d y=some b/\RC false a b/\∀D,Sim.closed D y=true->RC false a y
theorem bF1 (m:Mem C n h lim s):∀(d:Nat) (x:PV) (y:AV) (K:PV->Option R) (r:R),frzK h d x K=some r->RV C x y->∃M,K M=some r/\FzR (Sim.look s.h) (d+1) M y
 |0,x,y,K,r,hk,_=>by unfold frzK at hk;exact aB hk
 |d+1,x,y,K,r,hk,hv=>by
  have i:∀(xs:List PV) (ys:List AV) (K:List PV->Option R) (r:R),mapK (frzK h d) xs K=some r->LR (RV C) xs ys->
    ∃xs' j,K xs'=some r/\mapO (fzA (Sim.look s.h) (d+1)) ys=some j/\LR (RC false) xs' j/\((∀y∈ys,∃D,Sim.closed D y=true)->LR (RC false) xs' ys):=by
   intro xs
   induction xs with
   |nil=>
    intro ys K r hk hl
    rw[hl.inv_nil]
    unfold mapK at hk
    exact⟨[],[],hk,rfl,.nil,fun _=>.nil⟩
   |cons a as ih=>
    intro ys K r hk hl
    obtain⟨y,j,rfl,h1,h2⟩:=hl.inv_cons
    unfold mapK at hk
    obtain⟨a',w,b',t,N,O⟩:=bF1 m d a y _ r hk h1
    obtain⟨B,E,q1,q2,q3,q4⟩:=ih j _ r w h2
    refine⟨a'::B,b'::E,q1,by simp only[mapO,t,q2],.cons N q3,fun hc=>?_⟩
    obtain⟨D,c⟩:=hc y (by simp)
    exact .cons (O D c) (q4 fun z p=>hc z (by simp[p]))
  unfold frzK at hk
  cases x with
  |own k=>
   simp only[dA,lT1]at hk
   obtain⟨ob,hg,hk⟩:=hk
   cases ob with
   |lst ty e g rows=>
    refine⟨_,hk,?_⟩
    rcases gY hv with⟨id,ver,F,len,l,rfl⟩|⟨l,rfl⟩
    .obtain ⟨_,rfl,hlen,els,q,hr,G,_⟩:=eU m hg l
     subst hlen
     refine⟨.is F (els.take rows.length),?_,hr.is,fun D c=>by cases D<;>simp[Sim.closed]at c⟩
     exact eP1 (d:=4) (nR1 _) q hr G
    .have:=gH m hg l
     subst this
     exact⟨_,rfl,.isn,fun _ _=>.isn⟩
   |lz ty e dp rows=>
    cases hb:Nat.ble dp 4 with
    |false=>simp only[hb,mT1]at hk;exact aB hk
    |true=>
    simp only[hb,mF1]at hk
    have hb:=mD1 hb
    refine⟨_,hk,?_⟩
    rcases gY hv with⟨id,ver,F,len,l,rfl⟩|⟨l,rfl⟩
    .obtain ⟨_,_,rfl,hlen,_,els,q,hr⟩:=tB m hg l
     subst hlen
     obtain⟨A,w,t⟩:=kL1 (n0:=0) (f:=5) (fun id o p=>⟨nR1 _,(m.hr.zr id o p).1⟩) (by omega) (nR1 _) q hr
     exact⟨.is F A,w,t.is,fun D c=>by cases D<;>simp[Sim.closed]at c⟩
    .have:=pF m hg l
     subst this
     exact⟨_,rfl,.isn,fun _ _=>.isn⟩
   |_=>exact aB hk
  |zs dp e rows=>
   cases hb:Nat.ble dp 5 with
   |false=>simp only[hb,mT1]at hk;exact aB hk
   |true=>
   simp only[hb,mF1]at hk
   have hb:=mD1 hb
   refine⟨_,hk,?_⟩
   have p:=yJ hv
   obtain⟨S,w,t⟩:=eQ1 (L:=Sim.look s.h) (n0:=0) (fun id o p=>⟨nR1 _,(m.hr.zr id o p).1⟩) dp 6 (by omega) _ _ p
   rcases yK p with(⟨rows',rfl,hr⟩|⟨rfl,rfl⟩)|⟨d',id,ver,ty,els,_,rfl,_,_,_⟩
   .exact ⟨_,rfl,hr.is,fun _ _=>hr.is⟩
   .exact ⟨_,rfl,.isn,fun _ _=>.isn⟩
   .exact ⟨S,w,t.weak,fun D c=>by cases D<;>simp[Sim.closed]at c⟩
  |map k=>
   simp only[dA,lT1]at hk
   obtain⟨ob,hg,hk⟩:=hk
   cases ob with
   |mp es=>
    refine⟨_,hk,?_⟩
    obtain⟨id,ver,e,len,l,rfl⟩:=pD hv
    obtain⟨_,es',q,he⟩:=aV1 m hg l
    refine⟨.im es',?_,he.er.im,fun D c=>by cases D<;>simp[Sim.closed]at c⟩
    simp only[fzA,q]
    exact congrArg (Option.map AV.im) (gA1 he)
   |_=>exact aB hk
  |ref k o=>
   simp only[dA,lT1]at hk
   obtain⟨ob,hg,hk⟩:=hk
   cases ob with
   |box cs=>
    obtain⟨w,t⟩:=bK _ _ _ _ hk
    obtain⟨id,ver,e,len,l,rfl⟩:=fP hv
    obtain⟨_,ty,esz,row,q,hl⟩:=nL m hg l
    obtain⟨xs',j,q1,q2,q3,_⟩:=i _ _ _ r t (hl.drop o)
    refine⟨_,q1,.ip j,?_,.ip q3.1 q3.2,fun D c=>by cases D<;>simp[Sim.closed]at c⟩
    rw[hZ1 q rfl,q2]
    rfl
   |_=>exact aB hk
  |fn f a b=>
   obtain⟨a',b',rfl,h1,h2⟩:=qQ hv
   obtain⟨H,u,p1,p2,p3,p4⟩:=i _ _ _ r hk h1
   obtain⟨P,J,q1,q2,q3,q4⟩:=i _ _ _ r p1 h2
   refine⟨_,q1,.fn (.func f) u J,kM1 p2 q2,.fn p3.1 q3.1 p3.2 q3.2,fun D c=>?_⟩
   cases D with
   |zero=>simp[Sim.closed]at c
   |succ D=>
    simp only[Sim.closed,lU1,mB1]at c
    have w1:=p4 fun y hy=>⟨D,c.1 y hy⟩
    have w2:=q4 fun y hy=>⟨D,c.2 y hy⟩
    exact .fn w1.1 w2.1 w1.2 w2.2
  |agg cs=>
   obtain⟨cs',rfl,h1⟩:=gK hv
   obtain⟨H,u,p1,p2,p3,p4⟩:=i _ _ _ r hk h1
   refine⟨_,p1,.agg u,iA1 p2,.agg p3.1 p3.2,fun D c=>?_⟩
   cases D with
   |zero=>simp[Sim.closed]at c
   |succ D=>
    simp only[Sim.closed,mB1]at c
    have w1:=p4 fun y hy=>⟨D,c y hy⟩
    exact .agg w1.1 w1.2
  |v x=>
   rw[rv_v hv]
   exact⟨_,hk,_,rfl,.v x,fun _ _=>.v x⟩
  |is e rows=>
   refine⟨_,hk,?_⟩
   rcases tA hv with⟨rows',rfl,hr⟩|⟨rfl,rfl⟩
   .exact ⟨_,rfl,hr.is,fun _ _=>hr.is⟩
   .exact ⟨_,rfl,.isn,fun _ _=>.isn⟩
  |ip cs=>
   obtain⟨cs',rfl,hl⟩:=vC hv
   exact⟨_,hk,_,rfl,.ip hl.1 hl.2,fun _ _=>.ip hl.1 hl.2⟩
  |im es=>
   obtain⟨es',rfl,he⟩:=jS1 hv
   exact⟨_,hk,_,rfl,he.im,fun _ _=>he.im⟩
  |_=>exact aB hk
theorem nQ (e:Mem C n h lim s):∀(xs:List PV) (ys:List AV) (K:List PV->Option R) (r:R),qN h xs K=some r->LR (RV C) xs ys->
  ∃xs' b,K xs'=some r/\mapO (fzA (Sim.look s.h) 6) ys=some b/\LR (RC false) xs' b/\((∀y∈ys,∃D,Sim.closed D y=true)->LR (RC false) xs' ys)
 |[],ys,K,r,hk,hl=>by
  rw[hl.inv_nil]
  exact⟨[],[],hk,rfl,.nil,fun _=>.nil⟩
 |a::as,ys,K,r,hk,hl=>by
  obtain⟨y,b,rfl,h1,h2⟩:=hl.inv_cons
  unfold qN at hk
  obtain⟨a',i,b',j,k,l⟩:=bF1 e 5 a y _ r hk h1
  obtain⟨c,d,q1,q2,q3,q4⟩:=nQ e as b _ r i h2
  refine⟨a'::c,b'::d,q1,by simp only[mapO,j,q2],.cons k q3,fun hc=>?_⟩
  obtain⟨D,f⟩:=hc y (by simp)
  exact .cons (l D f) (q4 fun z g=>hc z (by simp[g]))
def FnOK (T:Tab) (f:FuncId) (xs:List PV) (v:PV):Prop:=
 ∃ifn,T f=some ifn/\ifn.pure=true/\(gndP 4 v=true->ifn.frz=true)/\∀ys,LR (RC false) xs ys->∃D,∀d,D<=d->∃y,Sim.runP T (exec T d) f ifn ys=some y/\RC false v y
theorem gB1:∀{d:Nat} {x:PV} {y:AV},gndP d x=true->RC false x y->Sim.gnd d y=true
 |0,_,_,h,_=>by simp[gndP]at h
 |d+1,x,y,hc,hr=>by
  have all:∀{xs:List PV} {ys:List AV},xs.all (gndP d)=true->LR (RC false) xs ys->ys.all (Sim.gnd d)=true:=by
   intro xs ys c hl
   rw[mB1]
   intro y hy
   obtain⟨x,a,b⟩:=wR hl hy
   exact gB1 (mB1.1 c x a) b
  cases hr with
  |v x=>rfl
  |agg hl hcc=>simp only[gndP]at hc;simp only[Sim.gnd];exact all hc ⟨hl,hcc⟩
  |tup hl hcc=>simp only[gndP]at hc;simp only[Sim.gnd];exact all hc ⟨hl,hcc⟩
  |_=>simp[gndP]at hc
theorem wS {T:Tab} {O:Orc} (u:∀f xs v,O f xs=some v->FnOK T f xs v) (w:Mem C n h lim s) {f:FuncId} {xs:List PV} {ys:List AV} {K:PV->Option R} {r:R} (hk:sT O f xs h K=some r) (p:LR (RV C) xs ys):
  ∃v y,K v=some r/\RC false v y/\(∃ifn,T f=some ifn/\ifn.pure=true)/\∃D,∀d,D<=d->∀m,Sim.callF T (exec T d) lim f ys {h:=s.h,n:=m}=some (y,{h:=s.h,n:=m}):=by
 unfold sT at hk
 by_cases hc:xs.all (bO 4)=true
 .rw [hc,mF1,aU,lT1]at hk
  obtain⟨v,hv,hk⟩:=hk
  rw[dY1]at hk
  obtain⟨ifn,h1,h2,t,l⟩:=u f xs v hv
  have i:LR (RC false) xs ys:=⟨p.1,fun j x y a b=>tE (p.2 j x y a b) (mB1.1 hc x (mE1 a))⟩
  have c:ys.all (Sim.closed 4)=true:=by
   rw[mB1]
   intro y hy
   obtain⟨x,z,A⟩:=wR i hy
   exact tJ (mB1.1 hc x z) A
  obtain⟨D,g⟩:=l ys i
  obtain⟨y,k,e⟩:=g D (lW1 _)
  refine⟨v,y,hk,e,⟨ifn,h1,h2⟩,D,fun d hd m=>?_⟩
  simp only[Sim.callF,h1,h2,mW1,c,Sim.mono_runP (Sim.mono_le T hd) k,mQ1]
 .simp only[nX1]at hc
  rw[hc,mT1]at hk
  obtain⟨xs',q,q1,q2,q3,q4⟩:=nQ w xs ys _ r hk p
  rw[aU,lT1]at q1
  obtain⟨v,hv,q1⟩:=q1
  rw[dY1]at q1
  cases hg:gndP 4 v with
  |false=>rw[hg]at q1;exact aB q1
  |true=>
   rw[hg,mF1]at q1
   obtain⟨ifn,h1,h2,t,l⟩:=u f xs' v hv
   by_cases c:ys.all (Sim.closed 4)=true
   .obtain ⟨D,g⟩:=l ys (q4 fun y hy=>⟨4,mB1.1 c y hy⟩)
    obtain⟨y,k,e⟩:=g D (lW1 _)
    refine⟨v,y,q1,e,⟨ifn,h1,h2⟩,D,fun d hd m=>?_⟩
    simp only[Sim.callF,h1,h2,mW1,c,Sim.mono_runP (Sim.mono_le T hd) k,mQ1]
   .obtain ⟨D,g⟩:=l q q3
    obtain⟨y,k,e⟩:=g D (lW1 _)
    have o:=gB1 hg e
    refine⟨v,y,q1,e,⟨ifn,h1,h2⟩,D,fun d hd m=>?_⟩
    simp only[Sim.callF,h1,h2,t hg,mW1,q2,Sim.mono_runP (Sim.mono_le T hd) k,o]
    rw[lY1 c]
end
end Go.P
namespace Go.P
open Go.Sim (AV AO Hp Ent upd St IC IX Ex OpK CK Wf Out doOp Tab exec)
section
variable {R:Type} {C:Cx} {n:Nat} {h:Heap} {lim:Nat} {s:Hp}
def Same (k:Nat) (C C':Cx):Prop:=(∀j,j≠k->C' j=C j)/\∀id o,C.z id=some o->C'.z id=some o
theorem wT {C':Cx} {k:Nat} (m:Same k C C'):∀(d:Nat) (x:PV) (y:AV) (K:PV->Option R) (r:R),cE k d x K=some r->RV C x y->∃q,K q=some r/\RV C' q y
 |0,x,y,K,r,hk,_=>by unfold cE at hk;exact⟨_,hk,.undef⟩
 |d+1,x,y,K,r,hk,hv=>by
  have c:∀(xs:List PV) (ys:List AV) (K:List PV->Option R) (r:R),cE.kills k d xs K=some r->LR (RV C) xs ys->∃xs',K xs'=some r/\LR (RV C') xs' ys:=by
   intro xs
   induction xs with
   |nil=>
    intro ys K r hk hl
    rw[hl.inv_nil]
    unfold cE.kills at hk
    exact⟨[],hk,.nil⟩
   |cons a as ih=>
    intro ys K r hk hl
    obtain⟨y,p,rfl,h1,h2⟩:=hl.inv_cons
    unfold cE.kills at hk
    obtain⟨a',t,u⟩:=wT m d a y _ r hk h1
    obtain⟨n,q1,q2⟩:=ih p _ r t h2
    exact⟨a'::n,q1,.cons u q2⟩
  have other:∀{pl:Option Pl} {j:Nat},C j=pl->j≠k->C' j=pl:=fun h s=>(m.1 _ s).trans h
  unfold cE at hk
  cases x with
  |zs d e rows=>exact⟨_,hk,.zs (RZ.mono m.2 (yJ hv))⟩
  |zm es=>
   rcases jV1 hv with⟨id,es',rfl,h1,h2⟩|⟨rfl,rfl⟩
   .exact ⟨_,hk,.zm (m.2 _ _ h1) h2⟩
   .exact ⟨_,hk,.zm0⟩
  |own j=>
   simp only[aS]at hk
   by_cases e:j=k
   .rw [mY1 e]at hk;exact⟨_,hk,.undef⟩
   .rw [mK1 e]at hk
    refine⟨_,hk,?_⟩
    rcases gY hv with⟨id,ver,l,len,hc,rfl⟩|⟨hc,hy⟩
    .exact .own (other hc e)
    .exact .ownn (other hc e) hy
  |el j i o=>
   simp only[aS]at hk
   by_cases e:j=k
   .rw [mY1 e]at hk;exact⟨_,hk,.undef⟩
   .rw [mK1 e]at hk
    obtain⟨id,ver,l,len,hc,rfl⟩:=vD hv
    exact⟨_,hk,.el (other hc e)⟩
  |fn f a b=>
   obtain⟨a',b',rfl,h1,h2⟩:=qQ hv
   obtain⟨g,p1,p2⟩:=c _ _ _ r hk h1
   obtain⟨w,q1,q2⟩:=c _ _ _ r p1 h2
   exact⟨_,q1,.fn p2.1 q2.1 p2.2 q2.2⟩
  |agg cs=>
   obtain⟨cs',rfl,h1⟩:=gK hv
   obtain⟨g,p1,p2⟩:=c _ _ _ r hk h1
   exact⟨_,p1,.agg p2.1 p2.2⟩
  |tup cs=>
   obtain⟨cs',rfl,h1⟩:=aU1 hv
   obtain⟨g,p1,p2⟩:=c _ _ _ r hk h1
   exact⟨_,p1,.tup p2.1 p2.2⟩
  |ref j o=>
   simp only[aS]at hk
   by_cases e:j=k
   .rw [mY1 e]at hk;exact⟨_,hk,.undef⟩
   .rw [mK1 e]at hk
    obtain⟨id,ver,l,len,hc,rfl⟩:=fP hv
    exact⟨_,hk,.ref (other hc e)⟩
  |map j=>
   simp only[aS]at hk
   by_cases e:j=k
   .rw [mY1 e]at hk;exact⟨_,hk,.undef⟩
   .rw [mK1 e]at hk
    obtain⟨id,ver,l,len,hc,rfl⟩:=pD hv
    exact⟨_,hk,.map (other hc e)⟩
  |yld j=>
   simp only[aS]at hk
   by_cases e:j=k
   .rw [mY1 e]at hk;exact⟨_,hk,.undef⟩
   .rw [mK1 e]at hk
    obtain⟨id,ver,l,len,hc,rfl⟩:=wN hv
    exact⟨_,hk,.yld (other hc e)⟩
  |v x=>rw[rv_v hv];exact⟨_,hk,.cl (.v x)⟩
  |is e rows=>exact⟨_,hk,.cl (by cases hv with|cl h=>exact h)⟩
  |ip cs=>exact⟨_,hk,.cl (by cases hv with|cl h=>exact h)⟩
  |im es=>exact⟨_,hk,.cl (by cases hv with|cl h=>exact h)⟩
  |undef=>exact⟨_,hk,.undef⟩
theorem wU {k:Nat}:∀(d:Nat) (x:PV) (K:PV->Option R) (r:R),cE k d x K=some r->∃g,K g=some r/\∀{C C':Cx} {y:AV},Same k C C'->RV C x y->RV C' g y
  |d,x,K,r,hk=>by
    have n:∃g,(∀{R:Type} (K:PV->Option R),cE k d x K=K g):=by
      have q:∀(d:Nat) (x:PV),∃g,∀{R:Type} (K:PV->Option R),cE k d x K=K g:=by
        intro d
        induction d with
        |zero=>intro x;exact⟨.undef,fun K=>by unfold cE;rfl⟩
        |succ d ih=>
          have c:∀(xs:List PV),∃xs',∀{R:Type} (K:List PV->Option R),cE.kills k d xs K=K xs':=by
            intro xs
            induction xs with
            |nil=>exact⟨[],fun K=>by unfold cE.kills;rfl⟩
            |cons a as ihl=>
              obtain⟨a',h⟩:=ih a
              obtain⟨m,p⟩:=ihl
              exact⟨a'::m,fun K=>by unfold cE.kills;rw[h,p]⟩
          intro x
          cases x with
          | own j => by_cases e:j=k
                     .exact ⟨.undef,fun K=>by unfold cE;simp[aS,e]⟩
                     .exact ⟨.own j,fun K=>by unfold cE;simp[aS,e]⟩
          | el j i o => by_cases e:j=k
                        .exact ⟨.undef,fun K=>by unfold cE;simp[aS,e]⟩
                        .exact ⟨.el j i o,fun K=>by unfold cE;simp[aS,e]⟩
          | ref j o => by_cases e:j=k
                       .exact ⟨.undef,fun K=>by unfold cE;simp[aS,e]⟩
                       .exact ⟨.ref j o,fun K=>by unfold cE;simp[aS,e]⟩
          |zs d e rows=>exact⟨.zs d e rows,fun K=>by unfold cE;rfl⟩
          |zm es=>exact⟨.zm es,fun K=>by unfold cE;rfl⟩
          | map j => by_cases e:j=k
                     .exact ⟨.undef,fun K=>by unfold cE;simp[aS,e]⟩
                     .exact ⟨.map j,fun K=>by unfold cE;simp[aS,e]⟩
          | yld j => by_cases e:j=k
                     .exact ⟨.undef,fun K=>by unfold cE;simp[aS,e]⟩
                     .exact ⟨.yld j,fun K=>by unfold cE;simp[aS,e]⟩
          |fn f a b=>
            obtain⟨a',h⟩:=c a
            obtain⟨b',hb⟩:=c b
            exact⟨.fn f a' b',fun K=>by unfold cE;simp only[h,hb]⟩
          |agg cs=>
            obtain⟨a',h⟩:=c cs
            exact⟨.agg a',fun K=>by unfold cE;simp only[h]⟩
          |tup cs=>
            obtain⟨a',h⟩:=c cs
            exact⟨.tup a',fun K=>by unfold cE;simp only[h]⟩
          |v x=>exact⟨.v x,fun K=>by unfold cE;rfl⟩
          |is e rows=>exact⟨.is e rows,fun K=>by unfold cE;rfl⟩
          |ip cs=>exact⟨.ip cs,fun K=>by unfold cE;rfl⟩
          |im es=>exact⟨.im es,fun K=>by unfold cE;rfl⟩
          |undef=>exact⟨.undef,fun K=>by unfold cE;rfl⟩
      exact q d x
    obtain⟨g,l⟩:=n
    refine⟨g,by rw[<-hk];exact(l K).symm,fun{C C' y} s hv=>?_⟩
    obtain⟨t,h1,h2⟩:=wT (R:=PV) s d x y some g (l some) hv
    cases h1
    exact h2
def lI1 (k:Nat) (e e':Env):Prop:=∀i v',eget e' i=some v'->∃v,eget e i=some v/\∀{C C':Cx} {y:AV},Same k C C'->RV C v y->RV C' v' y
theorem eP {k:Nat}:∀(e:Env) (K:Env->Option R) (r:R),lN k e K=some r->∃e',K e'=some r/\lI1 k e e'
 |[],K,r,hk=>⟨[],hk,fun i v h=>by simp[eget]at h⟩
 |(j,v)::t,K,r,hk=>by
  unfold lN at hk
  obtain⟨v',a,b⟩:=wU 3 v _ r hk
  obtain⟨c,q1,q2⟩:=eP t _ r a
  refine⟨(j,v')::c,q1,fun i w hw=>?_⟩
  simp only[eget]at hw ⊢
  split at hw
  .rename_i e;cases hw;rw[mA1 e];exact⟨v,rfl,b⟩
  .rename_i e;rw[lY1 e];exact q2 i w hw
def vI (k:Nat) (h h':Heap):Prop:=(∀j,hget h' j=none↔hget h j=none)/\∀j o',hget h' j=some o'->∃o,hget h j=some o/\dG o'=dG o/\
 ∀{C C':Cx} {L:Nat->Option AO} {lim nS:Nat} {pl:Pl},Same k C C'->ObjR C L lim nS o pl->ObjR C' L lim nS o' pl
theorem qX {k d:Nat}:∀(xs:List PV) (K:List PV->Option R) (r:R),cE.kills k d xs K=some r->∃xs',K xs'=some r/\∀{C C':Cx} {ys:List AV},Same k C C'->LR (RV C) xs ys->LR (RV C') xs' ys
 |[],K,r,hk=>by
  unfold cE.kills at hk
  exact⟨[],hk,fun _ hl=>by rw[hl.inv_nil];exact .nil⟩
 |a::as,K,r,hk=>by
  unfold cE.kills at hk
  obtain⟨a',e,f⟩:=wU d a _ r hk
  obtain⟨b,q1,q2⟩:=qX as _ r e
  refine⟨a'::b,q1,fun c hl=>?_⟩
  obtain⟨y,g,rfl,h1,h2⟩:=hl.inv_cons
  exact .cons (f c h1) (q2 c h2)
theorem kO1 {C C':Cx} {fs b:List PV} {els:List (List AV)} (h:∀{ys:List AV},LR (RV C) fs ys->LR (RV C') b ys) (hl:els.length=fs.length) (hr:∀(i:Nat) (f:PV) (row:List AV),fs[i]? =some f->els[i]? =some row->LR (RV C) [f] row):
  fs.length=b.length/\els.length=b.length/\∀(i:Nat) (f:PV) (row:List AV),b[i]? =some f->els[i]? =some row->LR (RV C') [f] row:=by
 have hy:=h (ys:=els.map fun r=>r.headD default) ⟨by simp[hl],fun j x y l hy=>by
  simp only[mZ1,lV1]at hy
  obtain⟨row,a,rfl⟩:=hy
  obtain⟨y,e,rfl,g,k⟩:=(hr j x row l a).inv_cons
  exact g⟩
 have hlen:b.length=els.length:=by simpa using hy.1
 refine⟨by omega,by omega,fun i f row hf a=>?_⟩
 have d:∃f0,fs[i]? =some f0:=by
  have:=(lX1.1 a).1
  exact⟨fs[i]'(by omega),by simp⟩
 obtain⟨f0,c⟩:=d
 obtain⟨y,e,rfl,g,k⟩:=(hr i f0 row c a).inv_cons
 rw[k.inv_nil]
 exact .cons (hy.2 i f y hf (by simp[mZ1,a])) .nil
theorem fQ {k:Nat}:∀(h:Heap) (K:Heap->Option R) (r:R),gT k h K=some r->∃h',K h'=some r/\vI k h h'
 |[],K,r,hk=>⟨[],hk,fun j=>Iff.rfl,fun j o h=>by simp[hget]at h⟩
 |(j,o)::t,K,r,hk=>by
  have fin:∀(o':PObj),gT k t (fun r=>K ((j,o')::r))=some r->dG o'=dG o->(∀{C C':Cx} {L:Nat->Option AO} {lim nS:Nat} {pl:Pl},Same k C C'->ObjR C L lim nS o pl->ObjR C' L lim nS o' pl)->∃h',K h'=some r/\vI k ((j,o)::t) h':=by
   intro o' hk hb d
   obtain⟨z,q1,q2,q3⟩:=fQ t _ r hk
   refine⟨(j,o')::z,q1,fun i=>?_,fun i w hw=>?_⟩
   .simp only[hget]
    split
    .simp
    .exact q2 i
   .simp only[hget]at hw ⊢
    split at hw
    .rename_i e;cases hw;rw[mA1 e];exact⟨o,rfl,hb,d⟩
    .rename_i e;rw[lY1 e];exact q3 i w hw
  unfold gT at hk
  cases o with
  |box cs=>
   obtain⟨cs',q,s⟩:=qX cs _ r hk
   refine fin _ q rfl (fun{C C' L lim nS pl} f d=>?_)
   cases pl with
   |nil=>exact d
   |atp id ver e len=>
    obtain⟨h1,h2,ty,esz,row,l,m⟩:=d
    exact⟨h1,h2,ty,esz,row,l,s f m⟩
  |lst ty e g rows=>exact fin _ hk rfl (fun{C C' L lim nS pl} f d=>by cases pl<;>exact d)
  |lz ty e dp rows=>
   refine fin _ hk rfl (fun{C C' L lim nS pl} f d=>?_)
   cases pl with
   |nil=>exact d
   |atp id ver e3 len=>
    obtain⟨h1,h2,l,m,n,els,p,u⟩:=d
    exact⟨h1,h2,l,m,n,els,p,u.mono f.2⟩
  |mp es=>exact fin _ hk rfl (fun{C C' L lim nS pl} f d=>by cases pl<;>exact d)
  |fl fs=>
   obtain⟨x,q,s⟩:=qX fs _ r hk
   refine fin _ q rfl (fun{C C' L lim nS pl} f d=>?_)
   cases pl with
   |nil=>exact d
   |atp id ver e len=>
    obtain⟨h1,h2,l,m,ty,els,n,p,u⟩:=d
    obtain⟨a,b,c⟩:=kO1 (s f) p u
    exact⟨h1,h2,l,by rw[m,a],ty,els,n,b,c⟩
  |loop N e ps a b busy fi=>
   obtain⟨e',q,s⟩:=eP e _ r hk
   refine fin _ q rfl (fun{C C' L lim nS pl} f d=>?_)
   cases pl with
   |nil=>exact d
   |atp id ver e3 len=>
    obtain⟨h1,h2,st,pend,tmps,l,m,n,p⟩:=d
    refine⟨h1,h2,st,pend,tmps,l,m,fun i v hv=>?_,p⟩
    obtain⟨w,w1,w2⟩:=s i v hv
    obtain⟨y,A,B⟩:=n i w w1
    exact⟨y,A,w2 f B⟩
theorem eR1 (c:Mem C n h lim s) {e:Nat} {x:PV} {y:AV} {K:List (List PV)->Option R} {r:R} (hk:hF1 h e x K=some r) (hv:RV C x y):∃rows rows',K rows=some r/\Sim.rowsOf (Sim.look s.h) e y=some rows'/\RR rows rows':=by
 unfold hF1 at hk
 split at hk
 .rename_i e' rows
  rw[aS]at hk
  by_cases a:e'=e
  .subst a
   rw[mY1 rfl,mF1]at hk
   rcases eA1 hv with⟨rows',rfl,hr⟩|⟨rfl,rfl|rfl⟩
   .exact ⟨rows,rows',hk,by simp[Sim.rowsOf],hr⟩
   .exact ⟨[],[],hk,rfl,.nil⟩
   .exact ⟨[],[],hk,rfl,.nil⟩
  .rw [mK1 a]at hk;exact aB hk
 .rename_i k
  simp only[dA,lT1]at hk
  obtain⟨ob,hg,hk⟩:=hk
  cases ob with
  |lst ty e' g rows=>
   simp only[aS]at hk
   by_cases a:e'=e
   .subst a
    rw[mY1 rfl,mF1]at hk
    rcases eN hv with⟨id,ver,i,len,b,rfl⟩|⟨b,hy⟩
    .obtain ⟨_,rfl,hlen,els,d,hr,f,_⟩:=eU c hg b
     subst hlen
     refine⟨rows,els.take rows.length,hk,?_,hr⟩
     simp only[Sim.rowsOf,d]
     rw[mA1 ⟨by trivial,by trivial,by omega⟩,nJ1]
    .have:=gH c hg b
     subst this
     rcases hy with rfl|rfl
     .exact ⟨[],[],hk,rfl,.nil⟩
     .exact ⟨[],[],hk,rfl,.nil⟩
   .rw [mK1 a]at hk;exact aB hk
  |_=>exact aB hk
 .rw [rv_v hv]
  exact⟨[],[],hk,rfl,.nil⟩
 .exact aB hk
def mv (C:Cx) (k:Nat) (pl:Pl):Cx:=⟨fun j=>if j=k then some pl else C j,C.z⟩
theorem dB (C:Cx) (k:Nat) (pl:Pl):Same k C (mv C k pl):=⟨fun j a=>lY1 a,fun _ _ h=>h⟩
theorem oG (C:Cx) (k:Nat) (pl:Pl):mv C k pl k=some pl:=mA1 rfl
theorem Same.self {k:Nat} {C:Cx}:Same k C C:=⟨fun _ _=>rfl,fun _ _ h=>h⟩
theorem wV {k:Nat} {po po':PObj} {h1:Heap} {C':Cx} (hg:hget h k=some po) (hkl:vI k h h1) (hb:dG po'=false) (d:Same k C C'):
  ∀j o,hget h j=some o->∃o',hget (hset h1 k po') j=some o'/\(dG o'=true->dG o=true/\C' j=C j):=by
 intro j o c
 have b:(hget h1 k).isSome=true:=by
  cases hc:hget h1 k with
  |none=>rw[(hkl.1 k).1 hc]at hg;cases hg
  |some o=>rfl
 rw[cQ]
 by_cases a:j=k
 .subst a
  exact⟨po',by simp[b],fun h=>by rw[hb]at h;cases h⟩
 .rw [lY1 (fun h=>a h.1)]
  cases hc:hget h1 j with
  |none=>rw[(hkl.1 j).1 hc]at c;cases c
  |some o'=>
   obtain⟨f,q1,e,_⟩:=hkl.2 j o' hc
   rw[c]at q1
   cases q1
   exact⟨o',rfl,fun h=>⟨by rw[<-e];exact h,d.1 j a⟩⟩
theorem bG1 (p:Mem C n h lim s) {k id ver e len} {po po2:PObj} {h1:Heap} {s':Hp} (hg:hget h k=some po) (hkl:vI k h h1)
  (hs:s.n<=s'.n) (hw:Wf s'.h s'.n) (A:Sk s.h s'.h s.n) (b:∀i,i<s.n->i≠id->Sim.look s'.h i=Sim.look s.h i) (a:s.n<=id\/∃v e l,C k=some (.atp id v e l))
  (F:ObjR (mv C k (.atp id ver e len)) (Sim.look s'.h) lim s'.n po2 (.atp id ver e len)) (hfx:dG po2=false):
  Mem (mv C k (.atp id ver e len)) n (hset h1 k po2) lim s'/\Fr C h s (mv C k (.atp id ver e len)) (hset h1 k po2) s':=by
 have y:(hget h1 k).isSome=true:=by
  cases hc:hget h1 k with
  |none=>rw[(hkl.1 k).1 hc]at hg;cases hg
  |some o=>rfl
 have g:∀j,hget (hset h1 k po2) j=if j=k then some po2 else hget h1 j:=fun j=>by
  rw[cQ];simp[y]
 have c:∀j,hget (hset h1 k po2) j≠none->hget h j≠none:=fun j f=>by
  rw[g]at f
  split at f
  .rename_i d;subst d;rw[hg];simp
  .exact fun hc=>f ((hkl.1 j).2 hc)
 have m:∀j v e l,j≠k->hget h j≠none->C j≠some (.atp id v e l):=by
  intro j v e2 l f D hc
  rcases a with a|⟨v',e',l',a⟩
  .have:=(p.hr.lt D hc).2
   omega
  .exact f (p.hr.inj j k id _ _ _ _ _ _ D (by rw[hg];simp) hc a)
 refine⟨⟨⟨fun j o f=>?_,fun j q i v1 d x v2 e2 H a1 a2 a3 a4=>?_,fun i o G=>?_⟩,fun j pl f=>?_,hw,nC1 p.lim hs⟩,⟨A,hs,fun i hi z=>b i hi (fun d=>z ?_),fun i hi z=>?_,wV hg hkl hfx (dB C k _),fun _ _ h=>h,fun _ _ h=>.inl h⟩⟩
 .rw [g]at f
  split at f
  .rename_i d
   subst d
   cases f
   exact⟨_,oG C j _,F⟩
  .rename_i u
   obtain⟨J,q1,K,q2⟩:=hkl.2 j o f
   obtain⟨pl,t,w⟩:=p.hr.ob j J q1
   refine⟨pl,((dB C k _).1 j u).trans t,?_⟩
   have E:ObjR (mv C k (.atp id ver e len)) (Sim.look s.h) lim s.n o pl:=q2 (dB C k _) w
   refine E.mono hs (.refl _) (fun i v1 d x hp=>?_)
   subst hp
   exact b i E.lt.2 (fun e2=>by subst e2;exact m j _ _ _ u (by rw[q1];simp) t)
 .by_cases b1:j=k
  .by_cases b2:q=k
   .rw [b1,b2]
   .exfalso
    subst b1
    rw[oG]at a3
    cases a3
    rw[(dB C j _).1 q b2]at a4
    exact m q _ _ _ b2 (c q a2) a4
  .by_cases b2:q=k
   .exfalso
    subst b2
    rw[oG]at a4
    cases a4
    rw[(dB C q _).1 j b1]at a3
    exact m j _ _ _ b1 (c j a1) a3
   .rw [(dB C k _).1 j b1]at a3
    rw[(dB C k _).1 q b2]at a4
    exact p.hr.inj j q i v1 d x v2 e2 H (c j a1) (c q a2) a3 a4
 .obtain ⟨z1,z2,z3,z4⟩:=p.hr.zr i o G
  have r:i≠id:=fun d=>by
   subst d
   rcases a with a|⟨v',e',l',a⟩
   .omega
   .exact z3 k _ _ _ (by rw[hg];simp) a
  refine⟨(b i z2 r).trans z1,nS1 z2 hs,fun j v e' l h1 h2=>?_,z4⟩
  by_cases b1:j=k
  .subst b1
   rw[oG]at h2
   cases h2
   exact r rfl
  .exact z3 j v e' l (c j h1) (((dB C k _).1 j b1).symm.trans h2)
 .by_cases b1:j=k
  .subst b1
   obtain⟨B,t,_⟩:=p.hr.ob j _ hg
   exact p.dom j B t
  .exact p.dom j pl (((dB C k _).1 j b1).symm.trans f)
 .subst d
  rcases a with a|⟨v',e',l',a⟩
  .omega
  .exact ⟨k,v',e',l',by rw[hg];simp,a⟩
 .obtain ⟨j,v1,d,x,t,w⟩:=z
  by_cases b1:j=k
  .subst b1
   rw[oG]at w
   cases w
   rcases a with a|⟨v',e',l',a⟩
   .omega
   .exact ⟨j,v',e',l',by rw[hg];simp,a⟩
  .exact ⟨j,v1,d,x,c j t,((dB C k _).1 j b1).symm.trans w⟩
end
end Go.P
namespace Go.P
open Go.Sim (AV AO Hp Ent upd St IC IX Ex OpK CK Wf Out doOp Tab exec)
theorem EnvR.mono {C C':Cx} {e:Env} {t:List AV} (h:EnvR C e t) (a:C.le C'):EnvR C' e t:=fun i v hv=>by
 obtain⟨y,h1,h2⟩:=h i v hv
 exact⟨y,h1,h2.mono a⟩
theorem EnvR.put {C':Cx} {e':Env} {t:List AV} {d:Nat} {v:PV} {y:AV} (hd:d<t.length) (hv:RV C' v y) (he:∀i w,eget e' i=some w->∃z,t[i]? =some z/\RV C' w z/\i≠d):EnvR C' ((d,v)::e') (t.set d y):=by
 intro i w hw
 simp only[eget]at hw
 split at hw
 .rename_i a
  subst a
  cases hw
  exact⟨y,by simp[hd],hv⟩
 .rename_i a
  obtain⟨z,h1,h2,b⟩:=he i w hw
  exact⟨z,by rw[mM1 (Ne.symm b)];exact h1,h2⟩
theorem EnvR.edel {C:Cx} {e:Env} {t:List AV} (h:EnvR C e t) (is:List Nat):∀i w,eget (edel e is) i=some w->∃z,t[i]? =some z/\RV C w z/\i∉is:=fun i w hw=>by
 rw[nI]at hw
 split at hw
 .cases hw
 .rename_i hi
  obtain⟨z,h1,h2⟩:=h i w hw
  exact⟨z,h1,h2,hi⟩
section
variable {R:Type} {C:Cx} {n:Nat} {h:Heap} {lim:Nat} {s:Hp}
theorem bH1 (f:Mem C n h lim s) {k:Nat} {po:PObj} {h1:Heap} (hg:hget h k=some po) (hkl:vI k h h1) (hb:dG po=false):Mem C n (hset h1 k po) lim s/\Fr C h s C (hset h1 k po) s:=by
 have g:(hget h1 k).isSome=true:=by
  cases hc:hget h1 k with
  |none=>rw[(hkl.1 k).1 hc]at hg;cases hg
  |some o=>rfl
 have a:∀j,hget (hset h1 k po) j=if j=k then some po else hget h1 j:=fun j=>by
  rw[cQ];simp[g]
 have b:∀j,hget (hset h1 k po) j≠none->hget h j≠none:=fun j c=>by
  rw[a]at c
  split at c
  .rename_i d;subst d;rw[hg];simp
  .exact fun hc=>c ((hkl.1 j).2 hc)
 refine⟨⟨⟨fun j o c=>?_,fun j r i v1 d q v2 e2 w a1 a2 a3 a4=>f.hr.inj j r i v1 d q v2 e2 w (b j a1) (b r a2) a3 a4,fun i o u=>?_⟩,f.dom,f.wf,f.lim⟩,⟨.refl _ _,lW1 _,fun _ _ _=>rfl,fun i hi t=>?_,wV hg hkl hb Same.self,fun _ _ h=>h,fun _ _ h=>.inl h⟩⟩
 .rw [a]at c
  split at c
  .rename_i d
   subst d
   cases c
   exact f.hr.ob j _ hg
  .obtain ⟨x,q1,y,q2⟩:=hkl.2 j o c
   obtain⟨pl,m,p⟩:=f.hr.ob j x q1
   exact⟨pl,m,q2 Same.self p⟩
 .obtain ⟨z1,z2,z3,z4⟩:=f.hr.zr i o u
  exact⟨z1,z2,fun j v e l h1 h2=>z3 j v e l (b j h1) h2,z4⟩
 .obtain ⟨j,v1,d,q,m,p⟩:=t
  exact⟨j,v1,d,q,b j m,p⟩
theorem bI1 (c:Mem C n h lim s) {e dp:Nat} {x:PV} {y:AV} {K:List (List PV)->Option R} {r:R} (hk:dS1 h e dp x K=some r) (hv:RV C x y):∃rows rows',K rows=some r/\Sim.rowsOf (Sim.look s.h) e y=some rows'/\RRz C.z dp rows rows':=by
 unfold dS1 at hk
 split at hk
 .rename_i e' rows
  rw[aS]at hk
  by_cases a:e'=e
  .subst a
   rw[mY1 rfl,mF1]at hk
   rcases eA1 hv with⟨rows',rfl,hr⟩|⟨rfl,rfl|rfl⟩
   .exact ⟨rows,rows',hk,by simp[Sim.rowsOf],hr.z⟩
   .exact ⟨[],[],hk,rfl,.nil⟩
   .exact ⟨[],[],hk,rfl,.nil⟩
  .rw [mK1 a]at hk;exact aB hk
 .rename_i k
  simp only[dA,lT1]at hk
  obtain⟨ob,hg,hk⟩:=hk
  cases ob with
  |lst ty e' g rows=>
   simp only[aS]at hk
   by_cases a:e'=e
   .subst a
    rw[mY1 rfl,mF1]at hk
    rcases eN hv with⟨id,ver,i,len,b,rfl⟩|⟨b,hy⟩
    .obtain ⟨_,rfl,hlen,els,f,hr,j,_⟩:=eU c hg b
     subst hlen
     refine⟨rows,els.take rows.length,hk,?_,hr.z⟩
     simp only[Sim.rowsOf,f]
     rw[mA1 ⟨by trivial,by trivial,by omega⟩,nJ1]
    .have:=gH c hg b
     subst this
     rcases hy with rfl|rfl
     .exact ⟨[],[],hk,rfl,.nil⟩
     .exact ⟨[],[],hk,rfl,.nil⟩
   .rw [mK1 a]at hk;exact aB hk
  |lz ty e' dp' rows=>
   simp only at hk
   cases hc:(Nat.beq e' e&&Nat.ble dp' dp)with
   |false=>rw[hc]at hk;exact aB hk
   |true=>
    rw[hc,mF1]at hk
    simp only[lU1]at hc
    have a:=mI1 hc.1
    have e2:=mD1 hc.2
    subst a
    rcases eN hv with⟨id,ver,i,len,b,rfl⟩|⟨b,hy⟩
    .obtain ⟨_,_,rfl,hlen,_,els,f,hr⟩:=tB c hg b
     subst hlen
     refine⟨rows,els,hk,?_,hr.up e2⟩
     have hl:=hr.1
     simp only[Sim.rowsOf,f]
     rw[mA1 ⟨by trivial,by trivial,by omega⟩,nJ1,hl,pA1]
    .have:=pF c hg b
     subst this
     rcases hy with rfl|rfl
     .exact ⟨[],[],hk,rfl,.nil⟩
     .exact ⟨[],[],hk,rfl,.nil⟩
  |_=>exact aB hk
 .rename_i d e' rows
  cases hc:(Nat.beq e' e&&Nat.ble d (dp+1))with
  |false=>rw[hc]at hk;exact aB hk
  |true=>
   rw[hc,mF1]at hk
   simp only[lU1]at hc
   have a:=mI1 hc.1
   have e2:=mD1 hc.2
   subst a
   rcases yK (yJ hv)with(⟨rows',rfl,hr⟩|⟨rfl,rfl⟩)|⟨d',id,ver,ty,els,rfl,rfl,hz,hl,hr⟩
   .exact ⟨rows,rows',hk,by simp[Sim.rowsOf],hr.z⟩
   .exact ⟨[],[],hk,rfl,.nil⟩
   .refine ⟨rows,els.take rows.length,hk,?_,hr.up (by omega)⟩
    simp only[Sim.rowsOf,(c.hr.zr id _ hz).1]
    rw[mA1 ⟨by trivial,by trivial,by omega⟩,nJ1]
 .rw [rv_v hv]
  exact⟨[],[],hk,rfl,.nil⟩
 .exact aB hk
theorem eS1 (l:Mem C n h lim s) {e:Env} {t:List AV} {d ty es b k ty' es' dp:Nat} {rows:List (List PV)} {zero:List Value} {kill:List Nat} {V:PV} {E U:AV} {K:Env->Heap->Option R} {r:R} (he:EnvR C e t) (hd:d<t.length) (h1:RV C (.own k) E) (h2:RV C V U)
  (hg:hget h k=some (.lz ty' es' dp rows))
  (hk:(dS1 h es dp V fun new=>bif Nat.beq es' es&&(Nat.beq ty' ty&& !(isFx ty'))then bC (appRows false rows new) fun rows=>
    delK e (d::kill) fun e=>lN k e fun e=>gT k h fun h=>eM h k (.lz ty' es' dp rows) fun h=>K ((d,.own k)::e) h
   else none)=some r):
  ∃C' e' h' out,K e' h'=some r/\doOp (Sim.look s.h) lim s.n (.append ty es b zero false) [E,U]=some out/\Mem C' n h' lim (out.apply s)/\EnvR C' e' (t.set d out.v)/\Fr C h s C' h' (out.apply s):=by
 have hz:=bI1 l hk h2
 clear hk
 obtain⟨new,a,hk,T,o⟩:=hz
 by_cases hc:(Nat.beq es' es&&(Nat.beq ty' ty&& !(isFx ty')))=true
 .simp only[hc,mF1,aU,lT1]at hk
  simp only[lU1,aS,mU1,mO1]at hc
  obtain⟨rfl,rfl,hfx⟩:=hc
  obtain⟨D,c,hk⟩:=hk
  rw[bY]at hk
  obtain⟨e2,hk,P⟩:=eP _ _ _ hk
  obtain⟨X,hk,y⟩:=fQ _ _ _ hk
  have hk:=bS _ _ _ _ _ hk
  unfold appRows at c
  split at c
  .rename_i B
   obtain rfl:rows++new=D:=Option.some.inj c
   have m:∀{C':Cx},Same k C C'->∀i w,eget e2 i=some w->∃z,t[i]? =some z/\RV C' w z/\i≠d:=by
    intro C' j i w hw
    obtain⟨v,q1,q2⟩:=P i w hw
    obtain⟨z,p1,p2,p3⟩:=he.edel (d::kill) i v q1
    exact⟨z,p1,q2 j p2,fun W=>p3 (by simp[W])⟩
   have x:∀out,Sim.appendTo (Sim.look s.h) lim s.n ty' es' E a=some out->(∀z id ver off len cap,out.v=.sl z id ver off len cap->len<=Sim.maxRoom)->doOp (Sim.look s.h) lim s.n (.append ty' es' b zero false) [E,U]=some out:=by
    intro out Y hl
    simp only[doOp,Sim.appRows,mG1,nI1,T,Y]
    split
    .rename_i hv
     rw[mA1 ⟨hl _ _ _ _ _ _ hv,by rw[<-o.1];omega⟩]
    .rfl
   have hlen:=o.1
   by_cases G:a=[]
   .subst G
    have H:new=[]:=by simpa using hlen
    subst H
    rw[oW1]at hk
    obtain⟨J,L⟩:=bH1 l hg y rfl
    refine⟨C,_,_,{v:=E},hk,x _ ?_ ?_,J,.put hd h1 (m Same.self),L⟩
    .rcases eN h1 with⟨id,ver,g,len,j,rfl⟩|⟨j,hy⟩
     .obtain ⟨f,_,rfl,hl,_,els,M,hr⟩:=tB l hg j
      have:=hr.1
      simp only[Sim.appendTo,M]
      rw[mA1 ⟨by trivial,by trivial,by trivial,by omega⟩]
      rfl
     .rcases hy with rfl|rfl<;>rfl
    .intro z id ver off len cap hv
     rcases eN h1 with⟨id',u,g,q,j,rfl⟩|⟨j,hy⟩
     .obtain ⟨f,_,rfl,hl,_⟩:=tB l hg j
      cases hv
      omega
     .rcases hy with rfl|rfl<;>cases hv
   .have p:a.isEmpty=false:=by cases a<;>simp_all
    rcases eN h1 with⟨id,ver,g,len,j,rfl⟩|⟨j,hy⟩
    .obtain ⟨f,O,rfl,hl,_,els,M,hr⟩:=tB l hg j
     subst hl
     have Z:=hr.1
     have N:Sim.appendTo (Sim.look s.h) lim s.n ty' g (.sl g id ver 0 rows.length none) a=some {v:=.sl g id (ver+1) 0 (rows.length+a.length) none,up:=some (id,.arr false ty' g (ver+1) (els++a))}:=by
      simp only[Sim.appendTo,M]
      rw[mA1 ⟨by trivial,by trivial,by trivial,by omega⟩]
      simp only[p,mG1,nI1]
      rw[mA1 (by omega),mA1 ⟨by trivial,f,by trivial⟩]
     have A:∀i,i≠id->Sim.look (upd s.h id (.arr false ty' g (ver+1) (els++a))) i=Sim.look s.h i:=fun i hi=>by
      rw[Sim.look_upd];simp[hi]
     obtain⟨J,L⟩:=bG1 (id:=id) (ver:=ver+1) (e:=g) (len:=(rows++new).length) (po2:=.lz ty' g dp (rows++new)) (s':={h:=upd s.h id (.arr false ty' g (ver+1) (els++a)),n:=s.n}) l hg y
      (lW1 _) (l.wf.upd _ _) (.upd _ _ _ _) (fun i _ hi=>A i hi) (.inr ⟨_,_,_,j⟩) ⟨f,O,rfl,rfl,hfx,els++a,by rw[Sim.look_upd];simp[M],hr.append o⟩ rfl
     refine⟨_,_,_,_,hk,x _ N ?_,J,?_,L⟩
     .intro z id' u off q cap hv
      cases hv
      omega
     .refine .put hd ?_ (m (dB C k _))
      have:RV (mv C k (.atp id (ver+1) g (rows++new).length)) (.own k) (.sl g id (ver+1) 0 (rows++new).length none):=.own (oG C k _)
      rw[nM1,hlen]at this
      simpa[hlen]using this
    .have S:=pF l hg j
     subst S
     have F:Sim.appendTo (Sim.look s.h) lim s.n ty' es' E a=some {v:=.sl es' s.n 0 0 a.length none,new:=some (.arr false ty' es' 0 a)}:=by
      rcases hy with rfl|rfl<;>simp[Sim.appendTo,p]
     have A:∀i,i<s.n->Sim.look (.ob s.n (.arr false ty' es' 0 a)::s.h) i=Sim.look s.h i:=fun i hi=>by
      rw[bX,lY1 (by omega)]
     obtain⟨J,L⟩:=bG1 (id:=s.n) (ver:=0) (e:=es') (len:=([]++new).length) (po2:=.lz ty' es' dp ([]++new)) (s':={h:=.ob s.n (.arr false ty' es' 0 a)::s.h,n:=s.n+1}) l hg y
      (by show s.n<=s.n+1;omega) ⟨by simp,l.wf⟩ (.new _ _ _) (fun i hi _=>A i hi) (.inl (lW1 _)) ⟨l.lim,by show s.n<s.n+1;omega,rfl,rfl,hfx,a,by rw[bX,mA1 rfl],by rw[List.nil_append];exact o⟩ rfl
     refine⟨_,_,_,_,hk,x _ F ?_,J,.put hd ?_ (m (dB C k _)),L⟩
     .intro z id' u off q cap hv
      cases hv
      simp at B
      omega
     .have:RV (mv C k (.atp s.n 0 es' ([]++new).length)) (.own k) (.sl es' s.n 0 0 ([]++new).length none):=.own (oG C k _)
      simpa[hlen]using this
  .cases c
 .simp only[nX1]at hc
  simp only[hc]at hk;exact aB hk
theorem iB1 (p:Mem C n h lim s) {e:Env} {t:List AV} {d ty es b:Nat} {zero:List Value} {kill:List Nat} {x1 x2:PV} {T y2:AV} {K:Env->Heap->Option R} {r:R} (he:EnvR C e t) (hd:d<t.length) (h1:RV C x1 T) (h2:RV C x2 y2)
  (hk:appK e h d ty es kill x1 x2 K=some r):
  ∃C' e' h' out,K e' h'=some r/\doOp (Sim.look s.h) lim s.n (.append ty es b zero false) [T,y2]=some out/\Mem C' n h' lim (out.apply s)/\EnvR C' e' (t.set d out.v)/\Fr C h s C' h' (out.apply s):=by
 unfold appK at hk
 cases x1 with
 |own k=>
  simp only[dA,lT1]at hk
  obtain⟨ob,hg,hk⟩:=hk
  cases ob with
  |lz ty' es' dp rows=>exact eS1 p he hd h1 h2 hg hk
  |lst ty' es' g rows=>
   have hz:=eR1 p hk h2
   clear hk
   obtain⟨new,a,hk,b9,A⟩:=hz
   by_cases hc:(Nat.beq es' es&&(Nat.beq ty' ty&& !(isFx ty')))=true
   .simp only[hc,mF1,aU,lT1]at hk
    simp only[lU1,aS,mU1,mO1]at hc
    obtain⟨rfl,rfl,hfx⟩:=hc
    have B:rty ty'=ty':=by simp[rty,hfx]
    obtain⟨P,j,hk⟩:=hk
    rw[bY]at hk
    obtain⟨e2,hk,b6⟩:=eP _ _ _ hk
    obtain⟨d3,hk,N⟩:=fQ _ _ _ hk
    have hk:=bS _ _ _ _ _ hk
    unfold appRows at j
    split at j
    .rename_i y
     obtain rfl:rows++new=P:=Option.some.inj j
     have u:∀{C':Cx},Same k C C'->∀i w,eget e2 i=some w->∃z,t[i]? =some z/\RV C' w z/\i≠d:=by
      intro C' o i w hw
      obtain⟨v,q1,q2⟩:=b6 i w hw
      obtain⟨z,p1,p2,p3⟩:=he.edel (d::kill) i v q1
      exact⟨z,p1,q2 o p2,fun e1=>p3 (by simp[e1])⟩
     have L:∀out,Sim.appendTo (Sim.look s.h) lim s.n ty' es' T a=some out->(∀z id ver off len cap,out.v=.sl z id ver off len cap->len<=Sim.maxRoom)->doOp (Sim.look s.h) lim s.n (.append ty' es' b zero false) [T,y2]=some out:=by
      intro out S hl
      simp only[doOp,Sim.appRows,mG1,nI1,b9,S]
      split
      .rename_i hv
       rw[mA1 ⟨hl _ _ _ _ _ _ hv,by rw[<-A.1];omega⟩]
      .rfl
     have hlen:=A.1
     by_cases E:a=[]
     ·
      subst E
      have X:new=[]:=by simpa using hlen
      subst X
      rw[oW1]at hk
      obtain⟨Z,m2⟩:=bH1 p hg N (show dG (.lst ty' es' g rows)=false from hfx)
      refine⟨C,_,_,{v:=T},hk,L _ ?_ ?_,Z,.put hd h1 (u Same.self),m2⟩
      .rcases eN h1 with⟨id,ver,m,len,o,rfl⟩|⟨o,hy⟩
       .obtain ⟨l,rfl,hl,els,J,hr,b7,_⟩:=eU p hg o
        rw[B]at J
        simp only[Sim.appendTo,J]
        rw[mA1 ⟨by trivial,by trivial,by trivial,by omega⟩]
        rfl
       .rcases hy with rfl|rfl<;>rfl
      .intro z id ver off len cap hv
       rcases eN h1 with⟨id',H,m,G,o,rfl⟩|⟨o,hy⟩
       .obtain ⟨l,rfl,hl,_⟩:=eU p hg o
        cases hv
        omega
       .rcases hy with rfl|rfl<;>cases hv
     .have x:a.isEmpty=false:=by cases a<;>simp_all
      rcases eN h1 with⟨id,ver,m,len,o,rfl⟩|⟨o,hy⟩
      .obtain ⟨l,rfl,hl,els,J,hr,b7,b4⟩:=eU p hg o
       rw[B]at J
       subst hl
       have b5:=(p.hr.lt (by rw[hg];simp) o).2
       have fin:∀(f:Nat) (c:List (List AV)) (out:Out),out={v:=.sl m id f 0 (rows.length+a.length) none,up:=some (id,.arr false ty' m f c)}->
         Sim.appendTo (Sim.look s.h) lim s.n ty' m (.sl m id ver 0 rows.length none) a=some out->
         RR (rows++new) (c.take (rows++new).length)->(rows++new).length<=c.length->(g=false->c.length=(rows++new).length)->
         ∃C' e' h' out,K e' h'=some r/\doOp (Sim.look s.h) lim s.n (.append ty' m b zero false) [.sl m id ver 0 rows.length none,y2]=some out/\Mem C' n h' lim (out.apply s)/\EnvR C' e' (t.set d out.v)/\Fr C h s C' h' (out.apply s):=by
        intro f c out S a0 Y W b0
        have D:(out.apply s).h=upd s.h id (.arr false ty' m f c)/\(out.apply s).n=s.n:=by subst S;exact⟨rfl,rfl⟩
        have O:∀i,i≠id->Sim.look (upd s.h id (.arr false ty' m f c)) i=Sim.look s.h i:=fun i hi=>by
         rw[Sim.look_upd];simp[hi]
        have q:out.apply s={h:=upd s.h id (.arr false ty' m f c),n:=s.n}:=by subst S;rfl
        obtain⟨Z,m2⟩:=bG1 (id:=id) (ver:=f) (e:=m) (len:=(rows++new).length) (po2:=.lst ty' m g (rows++new)) (s':={h:=upd s.h id (.arr false ty' m f c),n:=s.n}) p hg N
         (lW1 _) (p.wf.upd _ _) (.upd _ _ _ _) (fun i _ hi=>O i hi) (.inr ⟨_,_,_,o⟩) ⟨l,b5,rfl,rfl,c,by rw[Sim.look_upd];simp[J,B],Y,W,b0⟩ hfx
        refine⟨_,_,_,out,hk,L out a0 ?_,by rw[q];exact Z,?_,by rw[q];exact m2⟩
        .intro z id' H off G cap hv
         subst S
         cases hv
         omega
        .subst S
         refine .put hd ?_ (u (dB C k _))
         have:RV (mv C k (.atp id f m (rows++new).length)) (.own k) (.sl m id f 0 (rows++new).length none):=.own (oG C k _)
         rw[nM1,hlen]at this
         simpa[hlen]using this
       by_cases M:rows.length=els.length
       .refine fin (ver+1) (els++a) _ rfl ?_ ?_ ?_ ?_
        .simp only[Sim.appendTo,J]
         rw[mA1 ⟨by trivial,by trivial,by trivial,by omega⟩]
         simp only[x,mG1,nI1]
         rw[mA1 (by omega),mA1 ⟨by trivial,l,by trivial⟩]
        .rw [mV1 (by simp;omega)]
         refine RR.append ?_ A
         rw[mV1 (by omega)]at hr
         exact hr
        .simp;omega
        .intro _;simp;omega
       .have V:g=true:=by
         cases g with
         |true=>rfl
         |false=>exact absurd (b4 rfl).symm M
        have d2:=y.2 V
        have d1:a.length=1:=by
         have:a.length≠0:=by simpa using E
         omega
        have F:rows.length+a.length<=els.length:=by omega
        refine fin ver (Sim.setL els rows.length a) _ rfl ?_ ?_ ?_ ?_
        .simp only[Sim.appendTo,J]
         rw[mA1 ⟨by trivial,by trivial,by trivial,by omega⟩]
         simp only[x,mG1,nI1]
         rw[lY1 (by omega),mA1 ⟨by omega,l⟩]
         rw[nO1]
        .rw [nM els rows.length a F]
         have e1:(els.take rows.length++a++els.drop (rows.length+a.length)).take (rows++new).length=els.take rows.length++a:=by
          rw[oS1 (by simp;omega),mV1 (by simp;omega)]
         rw[e1]
         exact hr.append A
        .rw [nM els rows.length a F]
         simp[hlen]
         omega
        .intro U;rw[V]at U;cases U
      ·
       have b8:=gH p hg o
       subst b8
       have D:Sim.appendTo (Sim.look s.h) lim s.n ty' es' T a=some {v:=.sl es' s.n 0 0 a.length none,new:=some (.arr false ty' es' 0 a)}:=by
        rcases hy with rfl|rfl<;>simp[Sim.appendTo,x]
       have O:∀i,i<s.n->Sim.look (.ob s.n (.arr false ty' es' 0 a)::s.h) i=Sim.look s.h i:=fun i hi=>by
        rw[bX,lY1 (by omega)]
       obtain⟨Z,m2⟩:=bG1 (id:=s.n) (ver:=0) (e:=es') (len:=([]++new).length) (po2:=.lst ty' es' g ([]++new)) (s':={h:=.ob s.n (.arr false ty' es' 0 a)::s.h,n:=s.n+1}) p hg N
        (by show s.n<=s.n+1;omega) ⟨by simp,p.wf⟩ (.new _ _ _) (fun i hi _=>O i hi) (.inl (lW1 _)) ⟨p.lim,by show s.n<s.n+1;omega,rfl,rfl,a,by rw[bX,mA1 rfl,B],by rw[mV1 (by simp;omega)];exact A,by simp;omega,fun _=>by simp;omega⟩ hfx
       refine⟨_,_,_,_,hk,L _ D ?_,Z,.put hd ?_ (u (dB C k _)),m2⟩
       .intro z id' H off G cap hv
        cases hv
        simp at y
        omega
       .have:RV (mv C k (.atp s.n 0 es' ([]++new).length)) (.own k) (.sl es' s.n 0 0 ([]++new).length none):=.own (oG C k _)
        simpa[hlen]using this
    .cases j
   .simp only[nX1]at hc
    simp only[hc]at hk;exact aB hk
  |_=>exact aB hk
 |_=>exact aB hk
theorem gC1 (f:Mem C n h lim s) {k ty2 e2:Nat} {g2:Bool} {po:PObj} {h1:Heap} (hg:hget h k=some po) (u:C k=some .nil) (hkl:vI k h h1) (g:isFx ty2=false):
  Mem C n (hset h1 k (.lst ty2 e2 g2 [])) lim s/\Fr C h s C (hset h1 k (.lst ty2 e2 g2 [])) s:=by
 have m:(hget h1 k).isSome=true:=by
  cases hc:hget h1 k with
  |none=>rw[(hkl.1 k).1 hc]at hg;cases hg
  |some o=>rfl
 have a:∀j,hget (hset h1 k (.lst ty2 e2 g2 [])) j=if j=k then some (.lst ty2 e2 g2 [])else hget h1 j:=fun j=>by
  rw[cQ];simp[m]
 have b:∀j,hget (hset h1 k (.lst ty2 e2 g2 [])) j≠none->hget h j≠none:=fun j c=>by
  rw[a]at c
  split at c
  .rename_i d;subst d;rw[hg];simp
  .exact fun hc=>c ((hkl.1 j).2 hc)
 refine⟨⟨⟨fun j o c=>?_,fun j t i v1 d r v2 e2 y a1 a2 a3 a4=>f.hr.inj j t i v1 d r v2 e2 y (b j a1) (b t a2) a3 a4,fun i o x=>?_⟩,f.dom,f.wf,f.lim⟩,⟨.refl _ _,lW1 _,fun _ _ _=>rfl,fun i hi w=>?_,wV hg hkl g Same.self,fun _ _ h=>h,fun _ _ h=>.inl h⟩⟩
 .rw [a]at c
  split at c
  .rename_i d
   subst d
   cases c
   exact⟨.nil,u,rfl⟩
  .obtain ⟨z,q1,A,q2⟩:=hkl.2 j o c
   obtain⟨pl,p,q⟩:=f.hr.ob j z q1
   exact⟨pl,p,q2 Same.self q⟩
 .obtain ⟨z1,z2,z3,z4⟩:=f.hr.zr i o x
  exact⟨z1,z2,fun j v e l h1 h2=>z3 j v e l (b j h1) h2,z4⟩
 .obtain ⟨j,v1,d,r,p,q⟩:=w
  exact⟨j,v1,d,r,b j p,q⟩
theorem bJ1 (f:Mem C n h lim s) {e:Env} {t:List AV} {d es k:Nat} {hi:Int} {kd:IntKind} {kill:List Nat} {D F:AV} {K:Env->Heap->Option R} {r:R} (he:EnvR C e t) (hd:d<t.length) (h1:RV C (.own k) D) (h2:RV C (.v (.int kd hi)) F)
  (hk:aM1 e h d es kill k hi K=some r):
  ∃C' e' h' out,K e' h'=some r/\doOp (Sim.look s.h) lim s.n (.slc es false true false) [D,F]=some out/\Mem C' n h' lim (out.apply s)/\EnvR C' e' (t.set d out.v)/\Fr C h s C' h' (out.apply s):=by
 unfold aM1 at hk
 simp only[dA,lT1]at hk
 obtain⟨ob,hg,hk⟩:=hk
 cases ob with
 |lst ty es' g rows=>
  by_cases hc:es'=es
  .subst hc
   cases hfx:isFx ty with
   |true=>simp only[hfx,pB1,Bool.and_false,mT1]at hk;exact aB hk
   |false=>
   simp only[aS,oR1,hfx,Bool.not_false,Bool.and_true,mF1,aU,lT1,jV]at hk
   obtain⟨B,c,hk⟩:=hk
   rw[bY]at hk
   obtain⟨e2,hk,j⟩:=eP _ _ _ hk
   obtain⟨u,hk,l⟩:=fQ _ _ _ hk
   have hk:=bS _ _ _ _ _ hk
   split at c
   .rename_i hb
    obtain⟨b2,b3⟩:=hb
    obtain rfl:=Option.some.inj c
    rw[rv_v h2]
    rcases eN h1 with⟨id,ver,o,len,b,rfl⟩|⟨b,hy⟩
    .obtain ⟨m,rfl,hl,els,E,hr,H,G⟩:=eU f hg b
     subst hl
     have x:=(f.hr.lt (by rw[hg];simp) b).2
     have a:(rows.take hi.toNat).length=hi.toNat:=by simp;omega
     obtain⟨y,A⟩:=bG1 (id:=id) (ver:=ver) (e:=o) (len:=(rows.take hi.toNat).length) (po2:=.lst ty o true (rows.take hi.toNat)) (s':=s) (h1:=u) (hg:=hg) (hkl:=l) f
      (lW1 _) f.wf (.refl _ _) (fun i _ _=>rfl) (.inr ⟨_,_,_,b⟩) ⟨m,x,rfl,rfl,els,E,by
       have:=hr.take hi.toNat
       rw[List.take_take,Nat.min_eq_left (by omega)]at this
       rw[a];exact this,by rw[a];omega,fun h=>by cases h⟩ hfx
     refine⟨_,_,_,{v:=.sl o id ver 0 hi.toNat none},hk,?_,y,.put hd ?_ (fun i w hw=>?_),A⟩
     .simp only[doOp,Sim.sliceOp,mG1,nI1,Sim.bounds,Sim.intOf,mQ1,E,Sim.roomOf]
      rw[mA1 ⟨by trivial,by trivial,by omega,b2,by omega,by omega⟩]
      simp
     .have:=RV.own (C:=mv C k (.atp id ver o (rows.take hi.toNat).length)) (oG C k _)
      rw[a]at this ⊢
      exact this
     .obtain ⟨v,q1,q2⟩:=j i w hw
      obtain⟨z,p1,p2,p3⟩:=he.edel (d::kill) i v q1
      exact⟨z,p1,q2 (dB C k _) p2,fun p=>p3 (by simp[p])⟩
    .have:=gH f hg b
     subst this
     simp only[oK1,Int.natCast_zero]at b3
     obtain rfl:hi=0:=by omega
     obtain⟨y,A⟩:=gC1 (ty2:=ty) (e2:=es') (g2:=true) f hg b l hfx
     obtain rfl:D=.v (.slice none 0 0):=by
      rcases gY h1 with⟨_,_,_,_,q,_⟩|⟨_,q⟩
      .rw [b]at q;cases q
      .exact q
     refine⟨_,_,_,{v:=.v (.slice none 0 0)},hk,rfl,y,.put hd (.ownn b rfl) (fun i w hw=>?_),A⟩
     obtain⟨v,q1,q2⟩:=j i w hw
     obtain⟨z,p1,p2,p3⟩:=he.edel (d::kill) i v q1
     exact⟨z,p1,q2 Same.self p2,fun p=>p3 (by simp[p])⟩
   .cases c
  .simp only[aS,mK1 hc,Bool.false_and,mT1]at hk;exact aB hk
 |_=>exact aB hk
end
end Go.P
namespace Go.P
open Go.Sim (AV AO Hp Ent upd St IC IX Ex OpK CK Wf Out doOp Tab exec)
section
variable {R:Type} {C:Cx} {n:Nat} {h:Heap} {lim:Nat} {s:Hp}
theorem eT1 (l:Mem C n h lim s) {m:Bool} {k:Nat} {v:PV} {ob:PObj} {x:PV} (hv:sV v=some (m,k)) (hg:hget h k=some ob) (hf:dU1 m ob=some x) {y:AV} (hy:RV C v y):
  (∃id ver e len o,C k=some (.atp id ver e len)/\Sim.look s.h id=some o/\nbO o=true/\∀(z:Nat->Option AO) (f:Nat->Option Pl),(∀i o,C.z i=some o->z i=some o)->z id=some o->RV ⟨f,z⟩ x y)\/(C k=some .nil/\∀C':Cx,RV C' x y):=by
 cases v with
 |own k'=>
  cases hv
  cases ob with
  |lst ty e g rows=>
   unfold dU1 at hf
   cases hfx:isFx ty with
   |true=>simp only[hfx,mF1]at hf;cases hf
   |false=>
   simp only[hfx,mT1]at hf
   cases hf
   have q:rty ty=ty:=by simp[rty,hfx]
   rcases gY hy with⟨id,ver,d,len,c,rfl⟩|⟨c,rfl⟩
   .obtain ⟨_,rfl,hlen,els,j,hr,p,_⟩:=eU l hg c
    subst hlen
    rw[q]at j
    refine .inl ⟨id,ver,d,_,_,c,j,rfl,fun z f t hi=>.zs (.inr ⟨d,rows,id,ver,ty,els,rfl,rfl,hi,p,fun i r r' a b=>?_⟩)⟩
    refine hr.2 i r r' a ?_
    have:i<rows.length:=(lX1.1 a).1
    rw[mS1,mA1 this]
    exact b
   .have:=gH l hg c
    subst this
    exact .inr ⟨c,fun C'=>.zs (RZ.of .isn)⟩
  |lz ty e dp rows=>
   cases hf
   rcases gY hy with⟨id,ver,d,len,c,rfl⟩|⟨c,rfl⟩
   .obtain ⟨_,_,rfl,hlen,_,els,j,hr⟩:=tB l hg c
    subst hlen
    have hl:=hr.1
    exact .inl ⟨id,ver,d,_,_,c,j,rfl,fun z f t hi=>.zs (.inr ⟨d,rows,id,ver,ty,els,rfl,rfl,hi,by omega,fun i r r' a b=>(hr.2 i r r' a b).mono fun _ _ h=>RZ.mono t h⟩)⟩
   .have:=pF l hg c
    subst this
    exact .inr ⟨c,fun C'=>.zs (RZ.of .isn)⟩
  |_=>cases hf
 |map k'=>
  cases hv
  cases ob with
  |mp es=>
   cases hf
   obtain⟨id,ver,d,len,c,rfl⟩:=pD hy
   obtain⟨_,es',j,he⟩:=aV1 l hg c
   exact .inl ⟨id,ver,d,_,_,c,j,rfl,fun z f t hi=>.zm hi he⟩
  |_=>cases hf
 |_=>cases hv
def zxt (C:Cx) (k id:Nat) (o:AO):Cx:=⟨fun j=>if j=k then some .nil else C j,fun i=>if i=id then some o else C.z i⟩
theorem zMem (q:Mem C n h lim s) {k id ver e len:Nat} {po:PObj} {h1:Heap} {o:AO} (hg:hget h k=some po) (u:C k=some (.atp id ver e len)) (L:Sim.look s.h id=some o) (E:nbO o=true) (hkl:vI k h h1):
  Mem (zxt C k id o) n (hset h1 k (.lst 0 0 true [])) lim s/\Fr C h s (zxt C k id o) (hset h1 k (.lst 0 0 true [])) s/\Same k C (zxt C k id o):=by
 have B:=(q.hr.lt (by rw[hg];simp) u).2
 have F:C.z id=none:=by
  cases f:C.z id with
  |none=>rfl
  |some o'=>exact absurd u ((q.hr.zr id o' f).2.2.1 k ver e len (by rw[hg];simp))
 have y:∀i o',C.z i=some o'->(zxt C k id o).z i=some o':=fun i o' f=>by
  have:i≠id:=fun r=>by rw[r,F]at f;cases f
  simp only[zxt,lY1 this];exact f
 have c:Same k C (zxt C k id o):=⟨fun j d=>lY1 d,y⟩
 have w:(zxt C k id o) k=some .nil:=mA1 rfl
 have A:(hget h1 k).isSome=true:=by
  cases hc:hget h1 k with
  |none=>rw[(hkl.1 k).1 hc]at hg;cases hg
  |some o=>rfl
 have m:∀j,hget (hset h1 k (.lst 0 0 true [])) j=if j=k then some (.lst 0 0 true [])else hget h1 j:=fun j=>by
  rw[cQ];simp[A]
 have p:∀j,hget (hset h1 k (.lst 0 0 true [])) j≠none->hget h j≠none:=fun j d=>by
  rw[m]at d
  split at d
  .rename_i r;subst r;rw[hg];simp
  .exact fun hc=>d ((hkl.1 j).2 hc)
 have g:∀{j t v e l},(zxt C k id o) j=some (.atp t v e l)->j≠k/\C j=some (.atp t v e l):=fun{j t v e l} d=>by
  by_cases b:j=k
  .subst b;rw[w]at d;cases d
  .exact ⟨b,(c.1 j b).symm.trans d⟩
 refine⟨⟨⟨fun j ob d=>?_,fun j K i v1 r J v2 e2 N a1 a2 a3 a4=>q.hr.inj j K i v1 r J v2 e2 N (p j a1) (p K a2) (g a3).2 (g a4).2,fun i o' f=>?_⟩,fun j pl d=>?_,q.wf,q.lim⟩,⟨.refl _ _,lW1 _,fun _ _ _=>rfl,fun i hi M=>?_,wV hg hkl rfl c,y,fun i hi f=>?_⟩,c⟩
 .rw [m]at d
  split at d
  .rename_i r
   subst r
   cases d
   exact⟨.nil,w,rfl⟩
  .rename_i D
   obtain⟨O,q1,P,q2⟩:=hkl.2 j ob d
   obtain⟨pl,G,H⟩:=q.hr.ob j O q1
   exact⟨pl,(c.1 j D).trans G,q2 c H⟩
 .by_cases hi:i=id
  .subst hi
   simp only[zxt,mW1]at f
   cases f
   refine⟨L,B,fun j v e' l a b=>?_,E⟩
   obtain⟨b1,b2⟩:=g b
   exact b1 (q.hr.inj j k i _ _ _ _ _ _ (p j a) (by rw[hg];simp) b2 u)
  .simp only[zxt,lY1 hi]at f
   obtain⟨z1,z2,z3,z4⟩:=q.hr.zr i o' f
   exact⟨z1,z2,fun j v e' l a b=>z3 j v e' l (p j a) (g b).2,z4⟩
 .by_cases b:j=k
  .subst b
   exact q.dom j _ u
  .exact q.dom j pl ((c.1 j b).symm.trans d)
 .obtain ⟨j,v1,r,J,G,H⟩:=M
  exact⟨j,v1,r,J,p j G,(g H).2⟩
 .by_cases x:i=id
  .subst x
   exact .inr ⟨k,ver,e,len,by rw[hg];simp,u⟩
  .simp only[zxt,lY1 x]at f
   exact .inl f
theorem iC1 (B:Mem C n h lim s) {e:Env} {t:List AV} (he:EnvR C e t) {d k:Nat} {m:Bool} {J L:PV} {q yd:AV} {j:Option Nat} {K:Env->Heap->Option R} {r:R} (O:eget e d=some L) (hd:t[d]? =some yd) (S:RV C L yd)
  (hv:sV J=some (m,k)) (hy:RV C J q) (P:(j=none/\yd=q)\/∃i cs',j=some i/\yd=.agg cs'/\cs'[i]? =some q) (hk:fzK e h d m k j K=some r):
  ∃C' e' h',K e' h'=some r/\Mem C' n h' lim s/\EnvR C' e' t/\Fr C h s C' h' s:=by
 unfold fzK at hk
 rw[dA,lT1]at hk
 obtain⟨ob,hg,hk⟩:=hk
 cases hf:dU1 m ob with
 |none=>rw[hf]at hk;cases hk
 |some x=>
 rw[hf]at hk
 simp only at hk
 obtain⟨e2,hk,E⟩:=eP _ _ _ hk
 obtain⟨h2,hk,p⟩:=fQ _ _ _ hk
 have hk:=bS _ _ _ _ _ hk
 have g:∃C',Mem C' n (hset h2 k (.lst 0 0 true [])) lim s/\Fr C h s C' (hset h2 k (.lst 0 0 true [])) s/\Same k C C'/\RV C' x q:=by
  rcases eT1 B hv hg hf hy with⟨id,ver,T,len,o,A,N,F,G⟩|⟨A,G⟩
  .obtain ⟨c,f,u⟩:=zMem B hg A N F p
   exact⟨_,c,f,u,G _ _ u.2 (by simp[zxt])⟩
  .obtain ⟨c,f⟩:=gC1 (ty2:=0) (e2:=0) (g2:=true) B hg A p rfl
   exact⟨C,c,f,Same.self,G C⟩
 obtain⟨C',c,f,u,H⟩:=g
 have l:EnvR C' e2 t:=fun i w hw=>by
  obtain⟨v,q1,q2⟩:=E i w hw
  obtain⟨z,p1,p2⟩:=he i v q1
  exact⟨z,p1,q2 u p2⟩
 have putE:∀{v:PV},RV C' v yd->EnvR C' ((d,v)::edel e2 [d]) t:=fun{v} hv i w hw=>by
  simp only[eget]at hw
  split at hw
  .rename_i y
   subst y
   cases hw
   exact⟨yd,hd,hv⟩
  .obtain ⟨z,p1,p2,_⟩:=l.edel [d] i w hw
   exact⟨z,p1,p2⟩
 rcases P with⟨rfl,rfl⟩|⟨i,cs',rfl,rfl,hi⟩
 .simp only[bY]at hk
  exact⟨C',_,_,hk,c,putE H,f⟩
 .simp only[cV,lT1]at hk
  obtain⟨v2,hv2,hk⟩:=hk
  cases v2 with
  |agg cs=>
   obtain⟨q1,q2⟩:=dX _ _ _ _ _ hk
   simp only[bY]at q2
   obtain⟨z,p1,p2⟩:=l d _ hv2
   rw[hd]at p1
   cases p1
   obtain⟨cs2,D,hl⟩:=gK p2
   cases D
   refine⟨C',_,_,q2,c,putE ?_,f⟩
   have b:=hl.set H i
   have y:cs'.set i q=cs':=by
    apply pC1
    intro a
    rw[mN1]
    split
    .rename_i h;subst h
     have M:=(lX1.1 hi).1
     rw[mA1 M,hi]
    .rfl
   rw[y]at b
   exact .agg b.1 b.2
  |_=>exact aB hk
end
end Go.P
namespace Go.P
open Go.Sim (AV AO Hp Ent upd St IC IX Ex OpK CK Wf Out doOp Tab exec Foot wanted put)
theorem eU1 {x:PV} (h:okC x=true):RC false x (eV x):=by
 unfold okC at h
 split at h
 .exact .v _
 .exact .isn
 .exact .fn rfl rfl (fun j x y h=>by simp at h) (fun j x y h=>by simp at h)
 .rename_i cs
  refine .agg (by simp) (fun j x y a hy=>?_)
  simp only[mZ1,lV1]at hy
  obtain⟨b,h1,rfl⟩:=hy
  rw[a]at h1
  cases h1
  have:=mB1.1 h x (mE1 a)
  cases x<;>simp[isV]at this
  exact .v _
 .cases h
def okX (N:Nat):PX->Bool
 |.t i=>Nat.blt i N
 |.c x=>okC x
def okO (N:Nat) (e:List Nat) (a:Bool):List Nat->POs->Bool
 |_,.nil=>true
 |ds,.op d _ xs _ r=>Nat.blt d N&& !mem d e&&xs.all (okX N)&&okO N e a (d::ds) r
 |ds,.sto _ xs _ r=>xs.all (okX N)&&okO N e a ds r
 |ds,.ifx d c _ b x _ r=>Nat.blt d N&& !mem d e&&okX N x&&(!a||mem c ds)&&okO N (c::e) true [] b&&okO N e a (d::ds) r
 |ds,.ifn d c _ b x _ r=>Nat.blt d N&& !mem d e&&okX N x&&(!a||mem c ds)&&okO N (c::e) true [] b&&okO N e a (d::ds) r
 |ds,.mkfl d _ _ xs _ r=>Nat.blt d N&& !mem d e&&xs.all (okX N)&&okO N e a (d::ds) r
 |ds,.lax _ _ r=>okO N e a ds r
 |ds,.own _ _ _ _ r=>okO N e a ds r
 |ds,.ownc _ _ _ _ _ r=>okO N e a ds r
 |ds,.laxc _ _ _ r=>okO N e a ds r
 |ds,.fz _ _ r=>okO N e a ds r
 |ds,.laxm _ _ r=>okO N e a ds r
section
variable {R:Type} {C:Cx} {n N:Nat} {h:Heap} {lim:Nat} {s:Hp} {T:Tab} {O:Orc} {NF:FuncId->Bool} {dr:Nat} {e:Env} {t:List AV}
theorem fF (he:EnvR C e t):∀{xs:List PX} {vs:List PV},xs.all (okX N)=true->evs e xs=some vs->∃ys,Sim.evs t (xs.map eX)=some ys/\LR (RV C) vs ys
 |[],vs,_,h=>by
  simp only[evs,lZ1]at h
  subst h
  exact⟨[],rfl,.nil⟩
 |.t i::xs,vs,ho,h=>by
  simp only[evs,lT1,lZ1]at h
  obtain⟨v,hv,f,a,rfl⟩:=h
  obtain⟨y,h1,h2⟩:=he i v hv
  obtain⟨ys,b,d⟩:=fF he (xs:=xs) (by simp only[nQ1,lU1]at ho;exact ho.2) a
  exact⟨y::ys,by simp[Sim.evs,eX,IX.ev,h1,b],.cons h2 d⟩
 |.c x::xs,vs,ho,h=>by
  simp only[evs,lT1,lZ1]at h
  obtain⟨f,a,rfl⟩:=h
  simp only[nQ1,lU1]at ho
  obtain⟨ys,b,d⟩:=fF he (xs:=xs) ho.2 a
  exact⟨eV x::ys,by simp[Sim.evs,eX,IX.ev,b],.cons (.cl (eU1 ho.1)) d⟩
def GOK (g:Option (Nat×Bool)) (t:List AV):Prop:=match g with
 |none=>True
 |some (c,w)=>t[c]? =some (.v (.bool w))
theorem GOK.wanted {g:Option (Nat×Bool)} {t:List AV} (h:GOK g t):wanted t g=true:=by
 cases g with
 |none=>rfl
 |some p=>obtain⟨c,w⟩:=p;simp only[GOK]at h;simp[Sim.wanted,h]
def GIn (g:Option (Nat×Bool)) (a:List Nat):Prop:=∀c w,g=some (c,w)->c∈a
theorem GOK.set {g:Option (Nat×Bool)} {t:List AV} {a:List Nat} {d:Nat} {y:AV} (h:GOK g t) (hg:GIn g a) (hd:d∉a):GOK g (t.set d y):=by
 cases g with
 |none=>trivial
 |some p=>
  obtain⟨c,w⟩:=p
  simp only[GOK]at h ⊢
  rw[mM1 (fun e=>hd (by rw[e];exact hg c w rfl))]
  exact h
structure Mx (s s':Hp):Prop where
 sk:Sk s.h s'.h s.n
 n:s.n<=s'.n
 wf:Wf s'.h s'.n
 look:∀id,id<s.n->Sim.look s'.h id=Sim.look s.h id
theorem Mx.refl (hw:Wf s.h s.n):Mx s s:=⟨.refl _ _,lW1 _,hw,fun _ _=>rfl⟩
theorem Mx.trans {s' d:Hp} (a:Mx s s') (b:Mx s' d):Mx s d:=⟨a.sk.trans b.sk a.n,nC1 a.n b.n,b.wf,fun id c=>(b.look id (nS1 c a.n)).trans (a.look id c)⟩
theorem Mem.grow {s':Hp} (b:Mem C n h lim s) (a:Mx s s'):Mem C n h lim s':=by
 refine⟨⟨fun k po hk=>?_,b.hr.inj,fun id o c=>?_⟩,b.dom,a.wf,nC1 b.lim a.n⟩
 .obtain ⟨pl,h1,h2⟩:=b.hr.ob k po hk
  refine⟨pl,h1,h2.mono a.n (.refl C) (fun id v e l hp=>?_)⟩
  subst hp
  exact a.look id h2.lt.2
 .obtain ⟨z1,z2,z3,z4⟩:=b.hr.zr id o c
  exact⟨(a.look id z2).trans z1,nS1 z2 a.n,z3,z4⟩
theorem Mx.fr {s':Hp} (b:Mx s s'):Fr C h s C h s':=⟨b.sk,b.n,fun id a _=>b.look id a,fun _ _ h=>h,fun k o h=>⟨o,h,fun hb=>⟨hb,rfl⟩⟩,fun _ _ h=>h,fun _ _ h=>.inl h⟩
theorem bB:∀(ops:POs) (a:List Nat) (i:Nat),i∈dsts ops a↔i∈dsts ops []\/i∈a
 |.nil,a,i=>by simp[dsts]
 |.op d k xs kl r,a,i=>by
  simp only[dsts,mL1,bB r a i,or_assoc]
 |.sto k xs kl r,a,i=>by simp only[dsts,bB r a i]
 |.ifx d c w b x kl r,a,i=>by
  simp only[dsts,mL1,bB b (dsts r a) i,bB b (dsts r []) i,bB r a i]
  constructor
  .rintro (h|h|h|h)<;>simp[h]
  .rintro ((h|h|h)|h)<;>simp[h]
 |.ifn d c w b x kl r,a,i=>by
  simp only[dsts,mL1,bB b (dsts r a) i,bB b (dsts r []) i,bB r a i]
  constructor
  .rintro (h|h|h|h)<;>simp[h]
  .rintro ((h|h|h)|h)<;>simp[h]
 |.mkfl d ty zero xs kl r,a,i=>by
  simp only[dsts,mL1,bB r a i,or_assoc]
 |.lax d es r,a,i=>by simp only[dsts,bB r a i]
 |.own d ty e g r,a,i=>by simp only[dsts,bB r a i]
 |.ownc d j ty e g r,a,i=>by simp only[dsts,bB r a i]
 |.laxc d j e r,a,i=>by simp only[dsts,bB r a i]
 |.fz d j r,a,i=>by simp only[dsts,bB r a i]
 |.laxm d j r,a,i=>by simp only[dsts,bB r a i]
theorem cC:∀(ops:POs) {f h:List Nat} {a:Bool},okO N f a h ops=true->∀i∈dsts ops [],i∉f
 |.nil,f,h,a,_,i,hi=>by simp[dsts]at hi
 |.op d k xs kl r,f,h,a,ho,i,hi=>by
  simp only[okO,lU1,mO1,dW]at ho
  obtain⟨⟨⟨h1,h2⟩,m⟩,l⟩:=ho
  simp only[dsts,mL1]at hi
  rcases hi with rfl|hi
  .simpa using h2
  .exact cC r l i hi
 |.sto k xs kl r,f,h,a,ho,i,hi=>by
  simp only[okO,lU1]at ho
  exact cC r ho.2 i hi
 |.ifx d c w b x kl r,f,h,a,ho,i,hi=>by
  simp only[okO,lU1,mO1,dW]at ho
  obtain⟨⟨⟨⟨⟨h1,h2⟩,m⟩,l⟩,n⟩,o⟩:=ho
  simp only[dsts,mL1,bB b (dsts r []) i]at hi
  rcases hi with rfl|hi|hi
  .simpa using h2
  .exact fun hg=>cC b n i hi (by simp[hg])
  .exact cC r o i hi
 |.ifn d c w b x kl r,f,h,a,ho,i,hi=>by
  simp only[okO,lU1,mO1,dW]at ho
  obtain⟨⟨⟨⟨⟨h1,h2⟩,m⟩,l⟩,n⟩,o⟩:=ho
  simp only[dsts,mL1,bB b (dsts r []) i]at hi
  rcases hi with rfl|hi|hi
  .simpa using h2
  .exact fun hg=>cC b n i hi (by simp[hg])
  .exact cC r o i hi
 |.mkfl d ty zero xs kl r,f,h,a,ho,i,hi=>by
  simp only[okO,lU1,mO1,dW]at ho
  obtain⟨⟨⟨h1,h2⟩,m⟩,l⟩:=ho
  simp only[dsts,mL1]at hi
  rcases hi with rfl|hi
  .simpa using h2
  .exact cC r l i hi
 |.lax d es r,f,h,a,ho,i,hi=>cC r (by simpa only[okO]using ho) i hi
 |.own d ty e g r,f,h,a,ho,i,hi=>cC r (by simpa only[okO]using ho) i hi
 |.ownc d j ty e g r,f,h,a,ho,i,hi=>cC r (by simpa only[okO]using ho) i hi
 |.laxc d j e r,f,h,a,ho,i,hi=>cC r (by simpa only[okO]using ho) i hi
 |.fz d j r,f,h,a,ho,i,hi=>cC r (by simpa only[okO]using ho) i hi
 |.laxm d j r,f,h,a,ho,i,hi=>cC r (by simpa only[okO]using ho) i hi
theorem iH {g:Option (Nat×Bool)} {a:List Nat} {d:Nat} {y:AV} (hg:GIn g a) (hd:d∉a):wanted (t.set d y) g=wanted t g:=by
 cases g with
 |none=>rfl
 |some p=>
  obtain⟨c,w⟩:=p
  simp only[Sim.wanted]
  rw[mM1 (fun e=>hd (by rw[e];exact hg c w rfl))]
theorem nR {g:Option (Nat×Bool)} {t a:List AV} (h:∀c w,g=some (c,w)->a[c]? =t[c]?):wanted a g=wanted t g:=by
 cases g with
 |none=>rfl
 |some p=>
  obtain⟨c,w⟩:=p
  simp only[Sim.wanted]
  rw[h c w rfl]
theorem cJ (g:Option (Nat×Bool)):∀(ops:POs) (a h:List Nat) (t:List AV),okO N a true h ops=true->GIn g a->wanted t g=false->
  (∀c∈h,∀b,t[c]? ≠some (.v (.bool b)))->
  ∃fs n,Tr T NF dr lim (erO g ops) {t:=t,s:=s} fs {t:=n,s:=s}/\n.length=t.length/\(∀(i:Nat),i∉dsts ops []->n[i]? =t[i]?)/\∀(i:Nat),n[i]? =t[i]? \/n[i]? =some AV.undef
 |.nil,a,h,t,_,_,_,_=>⟨[],t,.nil,rfl,fun _ _=>rfl,fun _=>.inl rfl⟩
 |.op d k xs kl r,a,h,t,ho,hg,hw,hd=>by
  simp only[okO,lU1,mO1,dW]at ho
  obtain⟨⟨⟨h1,h2⟩,K⟩,C⟩:=ho
  have m:d∉a:=by simpa using h2
  have hset:∀i,(t.set d AV.undef)[i]? =t[i]? \/(t.set d AV.undef)[i]? =some AV.undef:=fun i=>by
   by_cases e:d=i
   .subst e
    by_cases hl:d<t.length
    .exact .inr (by rw[mN1];simp[hl])
    .exact .inl (by rw[oN1 (Nat.le_of_not_lt hl)])
   .exact .inl (mM1 e)
  obtain⟨fs,n,A,B,y,l⟩:=cJ g r a (d::h) (t.set d AV.undef) C hg (by rw[iH hg m];exact hw) (fun c hc b=>by
   by_cases f:d=c
   .subst f
    rw[mN1]
    simp only[mW1]
    split
    .intro e;cases e
    .intro e;cases e
   .rw [mM1 f]
    rcases mL1.1 hc with rfl|hc
    .exact absurd rfl f
    .exact hd c hc b)
  refine⟨_,n,.skip (o:=⟨some d,k,xs.map eX,g⟩) hw A,by simpa using B,fun i hi=>?_,fun i=>?_⟩
  .simp only[dsts,mL1,pJ1]at hi
   rw[y i hi.2,mM1 (Ne.symm hi.1)]
  .rcases l i with l|l
   .rw [l];exact hset i
   .exact .inr l
 |.ifx d c w b x kl r,a,h,t,ho,hg,hw,hd=>by
  simp only[okO,lU1,mO1,dW,pB1,Bool.false_or]at ho
  obtain⟨⟨⟨⟨⟨h1,h2⟩,K⟩,C⟩,H⟩,L⟩:=ho
  have m:d∉a:=by simpa using h2
  have E:c∈h:=by simpa using C
  have G:wanted t (some (c,w))=false:=by
   simp only[Sim.wanted]
   split
   .rename_i q M;exact absurd M (hd c E q)
   .rfl
  obtain⟨fs,p,A,B,y,l⟩:=cJ (some (c,w)) b (c::a) [] t H (fun z w' e=>by cases e;simp) G (fun c hc=>by simp at hc)
  have u:wanted p g=false:=by
   rw[nR (t:=t) (fun z w' e=>y z (fun hi=>cC b H z hi (by simp[hg z w' e])))]
   exact hw
  have F:∀c∈h,∀b,p[c]? ≠some (.v (.bool b)):=fun c hc b=>by
   rcases l c with l|l
   .rw [l];exact hd c hc b
   .rw [l];intro e;cases e
  have hset:∀i,(p.set d AV.undef)[i]? =p[i]? \/(p.set d AV.undef)[i]? =some AV.undef:=fun i=>by
   by_cases e:d=i
   .subst e
    by_cases hl:d<p.length
    .exact .inr (by rw[mN1];simp[hl])
    .exact .inl (by rw[oN1 (Nat.le_of_not_lt hl)])
   .exact .inl (mM1 e)
  obtain⟨J,n,q1,q2,q3,q4⟩:=cJ g r a (d::h) (p.set d AV.undef) L hg (by rw[iH hg m];exact u) (fun c hc b=>by
   by_cases f:d=c
   .subst f
    rw[mN1]
    simp only[mW1]
    split
    .intro e;cases e
    .intro e;cases e
   .rw [mM1 f]
    rcases mL1.1 hc with rfl|hc
    .exact absurd rfl f
    .exact F c hc b)
  refine⟨_,n,A.append (.skip u q1),by simp[q2,B],fun i hi=>?_,fun i=>?_⟩
  .simp only[dsts,mL1,bB b (dsts r []) i,pJ1]at hi
   rw[q3 i hi.2.2,mM1 (Ne.symm hi.1),y i hi.2.1]
  .rcases q4 i with q4|q4
   .rw [q4]
    rcases hset i with D|D
    .rw [D];exact l i
    .exact .inr D
   .exact .inr q4
 |.ifn d c w b x kl r,a,h,t,ho,hg,hw,hd=>by
  simp only[okO,lU1,mO1,dW,pB1,Bool.false_or]at ho
  obtain⟨⟨⟨⟨⟨h1,h2⟩,K⟩,C⟩,H⟩,L⟩:=ho
  have m:d∉a:=by simpa using h2
  have E:c∈h:=by simpa using C
  have G:wanted t (some (c,w))=false:=by
   simp only[Sim.wanted]
   split
   .rename_i q M;exact absurd M (hd c E q)
   .rfl
  obtain⟨fs,p,A,B,y,l⟩:=cJ (some (c,w)) b (c::a) [] t H (fun z w' e=>by cases e;simp) G (fun c hc=>by simp at hc)
  have u:wanted p g=false:=by
   rw[nR (t:=t) (fun z w' e=>y z (fun hi=>cC b H z hi (by simp[hg z w' e])))]
   exact hw
  have F:∀c∈h,∀b,p[c]? ≠some (.v (.bool b)):=fun c hc b=>by
   rcases l c with l|l
   .rw [l];exact hd c hc b
   .rw [l];intro e;cases e
  have hset:∀i,(p.set d AV.undef)[i]? =p[i]? \/(p.set d AV.undef)[i]? =some AV.undef:=fun i=>by
   by_cases e:d=i
   .subst e
    by_cases hl:d<p.length
    .exact .inr (by rw[mN1];simp[hl])
    .exact .inl (by rw[oN1 (Nat.le_of_not_lt hl)])
   .exact .inl (mM1 e)
  obtain⟨J,n,q1,q2,q3,q4⟩:=cJ g r a (d::h) (p.set d AV.undef) L hg (by rw[iH hg m];exact u) (fun c hc b=>by
   by_cases f:d=c
   .subst f
    rw[mN1]
    simp only[mW1]
    split
    .intro e;cases e
    .intro e;cases e
   .rw [mM1 f]
    rcases mL1.1 hc with rfl|hc
    .exact absurd rfl f
    .exact F c hc b)
  refine⟨_,n,A.append (.skip u q1),by simp[q2,B],fun i hi=>?_,fun i=>?_⟩
  .simp only[dsts,mL1,bB b (dsts r []) i,pJ1]at hi
   rw[q3 i hi.2.2,mM1 (Ne.symm hi.1),y i hi.2.1]
  .rcases q4 i with q4|q4
   .rw [q4]
    rcases hset i with D|D
    .rw [D];exact l i
    .exact .inr D
   .exact .inr q4
 |.mkfl d ty zero xs kl r,a,h,t,ho,hg,hw,hd=>by
  simp only[okO,lU1,mO1,dW]at ho
  obtain⟨⟨⟨h1,h2⟩,K⟩,C⟩:=ho
  have m:d∉a:=by simpa using h2
  have hset:∀i,(t.set d AV.undef)[i]? =t[i]? \/(t.set d AV.undef)[i]? =some AV.undef:=fun i=>by
   by_cases e:d=i
   .subst e
    by_cases hl:d<t.length
    .exact .inr (by rw[mN1];simp[hl])
    .exact .inl (by rw[oN1 (Nat.le_of_not_lt hl)])
   .exact .inl (mM1 e)
  obtain⟨fs,n,A,B,y,l⟩:=cJ g r a (d::h) (t.set d AV.undef) C hg (by rw[iH hg m];exact hw) (fun c hc b=>by
   by_cases f:d=c
   .subst f
    rw[mN1]
    simp only[mW1]
    split
    .intro e;cases e
    .intro e;cases e
   .rw [mM1 f]
    rcases mL1.1 hc with rfl|hc
    .exact absurd rfl f
    .exact hd c hc b)
  refine⟨_,n,.skip (o:=⟨some d,.buildSl ty 1 xs.length zero (List.range xs.length),xs.map eX,g⟩) hw A,by simpa using B,fun i hi=>?_,fun i=>?_⟩
  .simp only[dsts,mL1,pJ1]at hi
   rw[y i hi.2,mM1 (Ne.symm hi.1)]
  .rcases l i with l|l
   .rw [l];exact hset i
   .exact .inr l
 |.sto k xs kl r,a,h,t,ho,hg,hw,hd=>by
  simp only[okO,lU1]at ho
  obtain⟨fs,n,A,B,y,l⟩:=cJ g r a h t ho.2 hg hw hd
  exact⟨_,n,.skip (o:=⟨none,k,xs.map eX,g⟩) hw A,B,y,l⟩
 |.lax d es r,a,h,t,ho,hg,hw,hd=>cJ g r a h t (by simpa only[okO]using ho) hg hw hd
 |.own d ty e g' r,a,h,t,ho,hg,hw,hd=>cJ g r a h t (by simpa only[okO]using ho) hg hw hd
 |.ownc d j ty e g' r,a,h,t,ho,hg,hw,hd=>cJ g r a h t (by simpa only[okO]using ho) hg hw hd
 |.laxc d j e r,a,h,t,ho,hg,hw,hd=>cJ g r a h t (by simpa only[okO]using ho) hg hw hd
 |.fz d j r,a,h,t,ho,hg,hw,hd=>cJ g r a h t (by simpa only[okO]using ho) hg hw hd
 |.laxm d j r,a,h,t,ho,hg,hw,hd=>cJ g r a h t (by simpa only[okO]using ho) hg hw hd
end
end Go.P
namespace Go.P
open Go.Sim (AV AO Hp Ent upd St IC IX Ex OpK CK Wf Out doOp Tab exec Foot wanted put)
section
variable {R:Type} {T:Tab} {O:Orc} {X:NX} {dr:Nat}
theorem bK1 (G:∀f xs v,O f xs=some v->FnOK T f xs v) {C:Cx} {n:Nat} {h:Heap} {lim:Nat} {s:Hp} {k:OpK} {as:List PV} {ys:List AV} {K:PV->Heap->Nat->Option R} {r:R}
  (j:Mem C n h lim s) (x:LR (RV C) as ys) (hk:opK O X k as h n K=some r):
  ∃v h' n' C' y s',K v h' n'=some r/\RV C' v y/\Mem C' n' h' lim s'/\C.le C'/\n<=n'/\Fr C h s C' h' s'/\(aO1 k=false->∀id,id<s.n->Sim.look s'.h id=Sim.look s.h id)/\
   ∀(o:Sim.Op1) (os:List Sim.Op1) (t:List AV) (fs:List Foot) (τ:St),o.k=k->wanted t o.guard=true->Sim.evs t o.xs=some ys->Tr T X.is dr lim os {t:=put t o.dst y,s:=s'} fs τ->∃f,Tr T X.is dr lim (o::os) {t:=t,s:=s} (f::fs) τ:=by
 have call:∀(f:FuncId) (xs:List PV) (zs:List AV) (k:OpK),sT O f xs h (fun v=>K v h n)=some r->LR (RV C) xs zs->eO k=true->3<=cls X.is dr k->((∃ifn,T f=some ifn/\ifn.pure=true)->Sim.foot T k ys={all:=1})->
   (∀(d:Nat) (s:Hp),Sim.step T (exec T d) lim k ys s=Sim.callF T (exec T d) lim f zs s)->
   ∃v h' n' C' y s',K v h' n'=some r/\RV C' v y/\Mem C' n' h' lim s'/\C.le C'/\n<=n'/\Fr C h s C' h' s'/\(aO1 k=false->∀id,id<s.n->Sim.look s'.h id=Sim.look s.h id)/\
   ∀(o:Sim.Op1) (os:List Sim.Op1) (t:List AV) (fs:List Foot) (τ:St),o.k=k->wanted t o.guard=true->Sim.evs t o.xs=some ys->Tr T X.is dr lim os {t:=put t o.dst y,s:=s'} fs τ->∃f,Tr T X.is dr lim (o::os) {t:=t,s:=s} (f::fs) τ:=by
  intro f xs zs k hk J hc l hf u
  obtain⟨v,y,h1,h2,g,D,i⟩:=wS (lim:=lim) G j hk J
  refine⟨v,h,n,C,y,s,h1,.cl h2,j,.refl C,lW1 _,.refl _ _ _,fun _ _ _=>rfl,fun o os t fs τ q hw he w=>⟨{all:=1},?_⟩⟩
  subst q
  exact .call hw he hc l (hf g) ⟨D,fun d hd m=>by rw[u];exact i d hd m⟩ w
 unfold opK at hk
 split at hk
 .rename_i e f
  cases hX:X.is f with
  |true=>rw[hX]at hk;exact aB hk
  |false=>
   rw[hX,mT1]at hk
   refine call _ _ ys (.callF _) hk x rfl (by simp[cls,hX]) (fun⟨ifn,h1,h2⟩=>?_) (fun d s=>rfl)
   simp[Sim.foot,h1,h2]
 .rename_i f first cap e
  obtain⟨y,z,rfl,h1,h2⟩:=x.inv_cons
  obtain⟨a',b',rfl,g,i⟩:=qQ h1
  cases hX:X.is f with
  |true=>rw[hX]at hk;exact aB hk
  |false=>
   rw[hX,mT1]at hk
   refine call f (first++e++cap) (a'++z++b') .callV hk ((g.append h2).append i) rfl (by simp only[cls];split<;>omega) (fun⟨ifn,L,M⟩=>?_) (fun d s=>rfl)
   simp[Sim.foot,L,M]
 .rename_i k' e p H
  obtain⟨v,h',n',C',out,h1,h2,g,i,A,B,E,F⟩:=wP j x hk
  refine⟨v,h',n',C',out.v,out.apply s,h1,g,i,A,B,E,F,fun o os t fs τ q hw he w=>?_⟩
  subst q
  refine⟨_,.op hw he ?_ h2 w⟩
  cases hk':o.k with
  |callF f=>exact absurd hk' (p f)
  |callV=>
   rw[hk']at hk
   unfold bP at hk
   rcases e with _|⟨a,_|⟨b,_|⟨c,_|⟨d,t⟩⟩⟩⟩<;>exact aB hk
  |_=>rfl
theorem qY {t:List AV} {c i:Nat} {x:PX} {N:Nat} (b:t.length=N) (a:okX N x=true):∃z,(eX x).ev t=some z:=by
 cases x with
 |t i=>
  simp only[okX,nU1]at a
  exact⟨t[i]'(by omega),by simp[eX,IX.ev]⟩
 |c x=>exact⟨eV x,rfl⟩
theorem evs3 {t:List AV} {x y z:IX} {a b c:AV} (h1:x.ev t=some a) (h2:y.ev t=some b) (d:z.ev t=some c):Sim.evs t [x,y,z]=some [a,b,c]:=by
 simp[Sim.evs,h1,h2,d]
theorem tK {N lim:Nat} {A:List Nat} {C:Cx} {n:Nat} {h:Heap} {e:Env} {t:List AV} {s:Hp} {c:Nat} {w m y:Bool} {d:POs} {x:PX} (E:Mem C n h lim s) (F:t.length=N) (B:okO N (c::A) true [] d=true) (D:okX N x=true)
  (hc:t[c]? =some (.v (.bool m)))
  (hy:(bif w then ifK m (opsK.opsB O X d e h n x) (some false)else ifK m (some true) (opsK.opsB O X d e h n x))=some y)
  (IH:opsK.opsB O X d e h n x=some y->GOK (some (c,w)) t->∃fs o s',Tr T X.is dr lim (erO (some (c,w)) d) {t:=t,s:=s} fs {t:=o,s:=s'}/\(eX x).ev o=some (.v (.bool y))/\o.length=N/\(∀(i:Nat),i∉dsts d []->o[i]? =t[i]?)/\Mx s s'):
  ∃fs a b,Tr T X.is dr lim (erO (some (c,w)) d) {t:=t,s:=s} fs {t:=a,s:=b}/\a.length=N/\(∀(i:Nat),i∉dsts d []->a[i]? =t[i]?)/\Mx s b/\
     ∃zs,Sim.evs a (if w then[.t c,eX x,.c (.v (.bool false))]else[.t c,.c (.v (.bool true)),eX x])=some zs/\doOp (Sim.look b.h) lim b.n .pick zs=some {v:=.v (.bool y)}:=by
 have k:∀a:List AV,(∀(i:Nat),i∉dsts d []->a[i]? =t[i]?)->a[c]? =some (.v (.bool m)):=fun a q=>by
  rw[q c (fun hi=>cC d B c hi (by simp))]
  exact hc
 have skip:m≠w->∃fs a b,Tr T X.is dr lim (erO (some (c,w)) d) {t:=t,s:=s} fs {t:=a,s:=b}/\a.length=N/\(∀(i:Nat),i∉dsts d []->a[i]? =t[i]?)/\Mx s b:=by
  intro p
  obtain⟨fs,a,l,f,g,j⟩:=cJ (T:=T) (NF:=X.is) (dr:=dr) (lim:=lim) (s:=s) (some (c,w)) d (c::A) [] t B (fun G w' e=>by cases e;simp) (by simp[Sim.wanted,hc,p]) (fun c hc=>by simp at hc)
  exact⟨fs,a,s,l,f.trans F,g,.refl E.wf⟩
 cases w with
 |true=>
  rw[mF1,jT]at hy
  cases m with
  |true=>
   rw[mA1 rfl]at hy
   obtain⟨fs,a,b,l,f,g,j,u⟩:=IH hy hc
   exact⟨fs,a,b,l,g,j,u,[.v (.bool true),.v (.bool y),.v (.bool false)],evs3 (k a j) f rfl,rfl⟩
  |false=>
   simp only[mG1,nI1,lZ1]at hy
   subst hy
   obtain⟨fs,a,b,l,f,g,j⟩:=skip (by simp)
   obtain⟨z,r⟩:=qY (c:=0) (i:=0) f D
   exact⟨fs,a,b,l,f,g,j,[.v (.bool false),z,.v (.bool false)],evs3 (k a g) r rfl,rfl⟩
 |false=>
  rw[mT1,jT]at hy
  cases m with
  |true=>
   simp only[mW1,lZ1]at hy
   subst hy
   obtain⟨fs,a,b,l,f,g,j⟩:=skip (by simp)
   obtain⟨z,r⟩:=qY (c:=0) (i:=0) f D
   exact⟨fs,a,b,l,f,g,j,[.v (.bool true),.v (.bool true),z],evs3 (k a g) rfl r,rfl⟩
  |false=>
   simp only[mG1,nI1]at hy
   obtain⟨fs,a,b,l,f,g,j,u⟩:=IH hy hc
   exact⟨fs,a,b,l,g,j,u,[.v (.bool false),.v (.bool true),.v (.bool y)],evs3 (k a j) rfl f,rfl⟩
theorem lY (F:∀f xs v,O f xs=some v->FnOK T f xs v) {N lim:Nat}:∀(ops:POs) (a l:List Nat) (g:Option (Nat×Bool)) (C:Cx) (n:Nat) (h:Heap) (e:Env) (t:List AV) (s:Hp) (x:PX) (b:Bool),
  opsK.opsB O X ops e h n x=some b->EnvR C e t->Mem C n h lim s->t.length=N->okO N a true l ops=true->okX N x=true->GOK g t->GIn g a->
  ∃fs m s',Tr T X.is dr lim (erO g ops) {t:=t,s:=s} fs {t:=m,s:=s'}/\(eX x).ev m=some (.v (.bool b))/\m.length=N/\(∀(i:Nat),i∉dsts ops []->m[i]? =t[i]?)/\Mx s s'
 |.nil,a,l,g,C,n,h,e,t,s,x,b,hk,he,hM,hN,ho,hx,hg,hgi=>by
  unfold opsK.opsB at hk
  rw[eB,lT1]at hk
  obtain⟨vs,A,hk⟩:=hk
  obtain⟨ys,h1,h2⟩:=fF he (xs:=[x]) (by simpa using hx) A
  split at hk
  .cases hk
   obtain⟨y,_,rfl,h3,h4⟩:=h2.inv_cons
   rw[h4.inv_nil]at h1
   rw[rv_v h3]at h1
   refine⟨[],t,s,.nil,?_,hN,fun _ _=>rfl,.refl hM.wf⟩
   simp only[nV1,pF1,Sim.evs]at h1
   split at h1
   .rename_i ha hb
    cases h1
    exact ha
   .cases h1
  .exact aB hk
 |.op d k xs kl r,a,l,g,C,n,h,e,t,s,x,b,hk,he,hM,hN,ho,hx,hg,hgi=>by
  simp only[okO,lU1,mO1,dW,nU1]at ho
  obtain⟨⟨⟨o1,S⟩,G⟩,o4⟩:=ho
  have q:d∉a:=by simpa using S
  unfold opsK.opsB at hk
  rw[eB,lT1]at hk
  obtain⟨vs,A,hk⟩:=hk
  obtain⟨ys,h1,h2⟩:=fF he G A
  cases hst:aO1 k with
  |true=>rw[hst]at hk;exact aB hk
  |false=>
   rw[hst,mT1]at hk
   obtain⟨v,h',n',C',y,s',q1,q2,q3,q4,q5,q6,q7,q8⟩:=bK1 F hM h2 hk
   rw[bY]at q1
   have hd:d<t.length:=by omega
   have u:EnvR C' ((d,v)::edel e (d::kl)) (t.set d y):=.put hd q2 (fun i w hw=>by
    obtain⟨z,p1,p2,p3⟩:=(he.mono q4).edel (d::kl) i w hw
    exact⟨z,p1,p2,fun J=>p3 (by simp[J])⟩)
   obtain⟨fs,m,s2,V,W,Y,Z,r5⟩:=lY F r a (d::l) g C' n' h' _ (t.set d y) s' x b q1 u q3 (by simpa using hN) o4 hx (hg.set hgi q) hgi
   obtain⟨f,hf⟩:=q8 ⟨some d,k,xs.map eX,g⟩ _ t fs _ rfl hg.wanted h1 V
   have P:Mx s s':=⟨q6.sk,q6.n,q3.wf,q7 hst⟩
   refine⟨_,m,s2,hf,W,Y,fun i hi=>?_,P.trans r5⟩
   simp only[dsts,mL1,pJ1]at hi
   rw[Z i hi.2,mM1 (Ne.symm hi.1)]
 |.ifx d c w bd x' kl r,a,l,g,C,n,h,e,t,s,x,b,hk,he,hM,hN,ho,hx,hg,hgi=>by
  simp only[okO,lU1,mO1,dW,nU1,pB1,Bool.false_or]at ho
  obtain⟨⟨⟨⟨⟨o1,S⟩,G⟩,o4⟩,U⟩,o6⟩:=ho
  have q:d∉a:=by simpa using S
  unfold opsK.opsB at hk
  rw[cV,lT1]at hk
  obtain⟨cv,L,hk⟩:=hk
  split at hk
  .rename_i cb
   rw[aU,lT1]at hk
   obtain⟨y,hy,hk⟩:=hk
   rw[bY]at hk
   obtain⟨cy,B,K⟩:=he c _ L
   rw[rv_v K]at B
   obtain⟨fs,H,s1,p1,p2,p3,p4,zs,p5,p6⟩:=tK (T:=T) (O:=O) (X:=X) (dr:=dr) hM hN U G B hy (fun hb M=>lY F bd (c::a) [] (some (c,w)) C n h e t s x' y hb he hM hN U G M (fun E w' e=>by cases e;simp))
   have D:GOK g H:=by
    cases g with
    |none=>trivial
    |some p=>
     obtain⟨E,w'⟩:=p
     simp only[GOK]at hg ⊢
     rw[p3 E (fun hi=>cC bd U E hi (by simp[hgi E w' rfl]))]
     exact hg
   have hd:d<H.length:=by omega
   have u:EnvR C ((d,.v (.bool y))::edel e (d::dsts bd kl)) (H.set d (.v (.bool y))):=.put hd (.cl (.v _)) (fun i w hw=>by
    obtain⟨z,q1,q2,q3⟩:=he.edel (d::dsts bd kl) i w hw
    have R:i∉dsts bd []:=fun hi=>q3 (by simp[(bB bd kl i).2 (.inl hi)])
    exact⟨z,by rw[p3 i R];exact q1,q2,fun J=>q3 (by simp[J])⟩)
   obtain⟨a0,m,s2,V,W,Y,Z,r5⟩:=lY F r a (d::l) g C n h _ (H.set d (.v (.bool y))) s1 x b hk u (hM.grow p4) (by simpa using p2) o6 hx (D.set hgi q) hgi
   refine⟨_,m,s2,p1.append (.op (o:=⟨some d,.pick,_,g⟩) D.wanted p5 rfl p6 V),W,Y,fun i hi=>?_,p4.trans r5⟩
   simp only[dsts,mL1,bB bd (dsts r []) i,pJ1]at hi
   rw[Z i hi.2.2,mM1 (Ne.symm hi.1),p3 i hi.2.1]
  .exact aB hk
 |.sto k xs kl r,a,l,g,C,n,h,e,t,s,x,b,hk,he,hM,hN,ho,hx,hg,hgi=>by unfold opsK.opsB at hk;exact aB hk
 |.ifn d c w bd x' kl r,a,l,g,C,n,h,e,t,s,x,b,hk,he,hM,hN,ho,hx,hg,hgi=>by unfold opsK.opsB at hk;exact aB hk
 |.mkfl d ty zero xs kl r,a,l,g,C,n,h,e,t,s,x,b,hk,he,hM,hN,ho,hx,hg,hgi=>by unfold opsK.opsB at hk;exact aB hk
 |.lax d es r,a,l,g,C,n,h,e,t,s,x,b,hk,he,hM,hN,ho,hx,hg,hgi=>by unfold opsK.opsB at hk;exact aB hk
 |.own d ty es g' r,a,l,g,C,n,h,e,t,s,x,b,hk,he,hM,hN,ho,hx,hg,hgi=>by unfold opsK.opsB at hk;exact aB hk
 |.ownc d j ty es g' r,a,l,g,C,n,h,e,t,s,x,b,hk,he,hM,hN,ho,hx,hg,hgi=>by unfold opsK.opsB at hk;exact aB hk
 |.laxc d j es r,a,l,g,C,n,h,e,t,s,x,b,hk,he,hM,hN,ho,hx,hg,hgi=>by unfold opsK.opsB at hk;exact aB hk
 |.fz d j r,a,l,g,C,n,h,e,t,s,x,b,hk,he,hM,hN,ho,hx,hg,hgi=>by unfold opsK.opsB at hk;exact aB hk
 |.laxm d j r,a,l,g,C,n,h,e,t,s,x,b,hk,he,hM,hN,ho,hx,hg,hgi=>by unfold opsK.opsB at hk;exact aB hk
end
end Go.P
namespace Go.P
open Go.Sim (AV AO Hp Ent upd St IC IX Ex OpK CK Wf Out doOp Tab exec Foot wanted put)
def resP (C:Cx) (p:Nat->Bool):Cx:=⟨fun k=>if p k then C k else none,C.z⟩
theorem qZ {C:Cx} {p:Nat->Bool} {x:PV} {y:AV} (h:RV C x y):∀{d:Nat},jD p d x=true->RV (resP C p) x y:=by
 have lt:∀{k:Nat} {pl:Pl},C k=some pl->p k=true->resP C p k=some pl:=fun h1 h2=>by simp[resP,h2,h1]
 induction h with
 |cl h=>intro d hb;exact .cl h
 |undef=>intro d hb;exact .undef
 |ref h=>intro d hb;cases d with
  |zero=>cases hb
  |succ d=>exact .ref (lt h hb)
 |own h=>intro d hb;cases d with
  |zero=>cases hb
  |succ d=>exact .own (lt h hb)
 |ownn h hy=>intro d hb;cases d with
  |zero=>cases hb
  |succ d=>exact .ownn (lt h hb) hy
 |el h=>intro d hb;cases d with
  |zero=>cases hb
  |succ d=>exact .el (lt h hb)
 |map h=>intro d hb;cases d with
  |zero=>cases hb
  |succ d=>exact .map (lt h hb)
 |yld h=>intro d hb;cases d with
  |zero=>cases hb
  |succ d=>exact .yld (lt h hb)
 |fn h1 h2 v1 v2 i1 i2=>intro d hb;cases d with
  |zero=>cases hb
  |succ d=>
   simp only[jD,lU1]at hb
   exact .fn h1 h2 (fun j x y a hy=>i1 j x y a hy (mB1.1 hb.1 x (mE1 a))) (fun j x y a hy=>i2 j x y a hy (mB1.1 hb.2 x (mE1 a)))
 |agg hl hc ih=>intro d hb;cases d with
  |zero=>cases hb
  |succ d=>exact .agg hl (fun j x y a hy=>ih j x y a hy (mB1.1 hb x (mE1 a)))
 |tup hl hc ih=>intro d hb;cases d with
  |zero=>cases hb
  |succ d=>exact .tup hl (fun j x y a hy=>ih j x y a hy (mB1.1 hb x (mE1 a)))
 |zs h=>intro d hb;exact .zs h
 |zm h he=>intro d hb;exact .zm h he
 |zm0=>intro d hb;exact .zm0
theorem rA:∀(h:Heap) (k:Nat),hasK h k=(hget h k).isSome
 |[],k=>rfl
 |(j,o)::r,k=>by
  simp only[hasK,hget,aS]
  by_cases e:j=k<;>simp[e,rA r k]
section
variable {R:Type}
theorem kA:∀{h:Heap} {c:List Nat} {K:Heap->Heap->Option R} {r:R},aL1 h c K=some r->∃a b,K a b=some r/\∀k,hget a k=(if mem k c then hget h k else none)/\hget b k=(if mem k c then none else hget h k)
 |[],c,K,r,hk=>⟨[],[],hk,fun k=>by simp[hget]⟩
 |(j,o)::t,c,K,r,hk=>by
  unfold aL1 at hk
  obtain⟨a,b,h1,h2⟩:=kA hk
  cases hm:mem j c with
  |true=>
   rw[hm,mF1]at h1
   refine⟨_,_,h1,fun k=>?_⟩
   simp only[hget]
   by_cases e:j=k
   .subst e;simp[hm,(h2 j).2]
   .simp only[lY1 e];exact h2 k
  |false=>
   rw[hm,mT1]at h1
   refine⟨_,_,h1,fun k=>?_⟩
   simp only[hget]
   by_cases e:j=k
   .subst e;simp[hm,(h2 j).1]
   .simp only[lY1 e];exact h2 k
theorem tL:∀{a b:Heap} {K:Heap->Option R} {r:R},vA a b K=some r->∃c,K c=some r/\∀k,hget c k=(hget a k).or (hget b k)
 |[],b,K,r,hk=>⟨b,hk,fun k=>by simp[hget]⟩
 |(j,o)::t,b,K,r,hk=>by
  unfold vA at hk
  obtain⟨c,h1,h2⟩:=tL hk
  refine⟨_,h1,fun k=>?_⟩
  simp only[hget]
  by_cases e:j=k
  .simp [e]
  .simp only[lY1 e];exact h2 k
theorem tM:∀(a:Heap) (K:Heap->Option R),vA a [] K=K a
 |[],K=>rfl
 |(j,o)::t,K=>by unfold vA;rw[tM t]
theorem cL {f:PV->List Nat->(List Nat->Option R)->Option R} (hf:∀x a K r,f x a K=some r->∃a',K a'=some r):∀(xs:List PV) (a:List Nat) (K:List Nat->Option R) (r:R),nG f xs a K=some r->∃a',K a'=some r
 |[],a,K,r,h=>⟨a,h⟩
 |x::xs,a,K,r,h=>by
  unfold nG at h
  obtain⟨a',h⟩:=hf x a _ r h
  exact cL hf xs a' K r h
theorem pK {f:PV->List Nat->(List Nat->Option R)->Option R} (hf:∀x a K r,f x a K=some r->∃a',K a'=some r):∀(xs:Env) (a:List Nat) (K:List Nat->Option R) (r:R),dT1 f xs a K=some r->∃a',K a'=some r
 |[],a,K,r,h=>⟨a,h⟩
 |(_,x)::xs,a,K,r,h=>by
  unfold dT1 at h
  obtain⟨a',h⟩:=hf x a _ r h
  exact pK hf xs a' K r h
theorem dC:∀(d:Nat) (x:PV) (a:List Nat) (K:List Nat->Option R) (r:R),gI d x a K=some r->∃a',K a'=some r
 |0,x,a,K,r,h=>by unfold gI at h;exact aB h
 |d+1,x,a,K,r,h=>by
  have ih:=dC d
  unfold gI at h
  cases x with
  |ref k o=>exact⟨_,h⟩
  |own k=>exact⟨_,h⟩
  |el k i o=>exact⟨_,h⟩
  |map k=>exact⟨_,h⟩
  |yld k=>exact⟨_,h⟩
  |fn f p q=>
   obtain⟨a',h⟩:=cL ih p a _ r h
   exact cL ih q a' K r h
  |agg cs=>exact cL ih cs a K r h
  |tup cs=>exact cL ih cs a K r h
  |_=>exact⟨_,h⟩
theorem bZ {h:Heap}:∀(n:Nat) (b a:List Nat) (K:List Nat->Option R) (r:R),gU h n b a K=some r->∃a',K a'=some r
 |0,b,a,K,r,hk=>by unfold gU at hk;exact aB hk
 |n+1,[],a,K,r,hk=>by unfold gU at hk;exact⟨a,hk⟩
 |n+1,k::b,a,K,r,hk=>by
  unfold gU at hk
  cases hm:mem k a with
  |true=>rw[hm,mF1]at hk;exact bZ n b a K r hk
  |false=>
   rw[hm,mT1,dA,lT1]at hk
   obtain⟨ob,_,hk⟩:=hk
   cases ob with
   |box cs=>
    obtain⟨c,hk⟩:=cL (dC 4) cs b _ r hk
    exact bZ n c _ K r hk
   |fl cs=>
    obtain⟨c,hk⟩:=cL (dC 4) cs b _ r hk
    exact bZ n c _ K r hk
   |loop N e ps x y busy fin=>
    obtain⟨c,hk⟩:=pK (dC 4) e b _ r hk
    exact bZ n c _ K r hk
   |lst ty e g rows=>exact bZ n b _ K r hk
   |lz ty e dp rows=>exact bZ n b _ K r hk
   |mp es=>exact bZ n b _ K r hk
def Dif (hs:Heap) (C C':Cx):Prop:=(∀k,C' k=C k\/∃o,(k,o)∈hs/\dG o=false)/\∀id o,C.z id=some o->C'.z id=some o
theorem kU:∀{hs:Heap} {e:Env} {h:Heap} {K:Env->Heap->Option R} {r:R},jX hs e h K=some r->∃e' h',K e' h'=some r/\
  (∀i w,eget e' i=some w->∃v,eget e i=some v/\∀{C C':Cx} {y:AV},Dif hs C C'->RV C v y->RV C' w y)/\
  (∀j,hget h' j=none↔hget h j=none)/\∀j o',hget h' j=some o'->∃o,hget h j=some o/\dG o'=dG o/\
   ∀{C C':Cx} {L:Nat->Option AO} {lim nS:Nat} {pl:Pl},Dif hs C C'->ObjR C L lim nS o pl->ObjR C' L lim nS o' pl
 |[],e,h,K,r,hk=>by
  refine⟨e,h,hk,fun i w hw=>⟨w,hw,fun{C C' y} hd hv=>?_⟩,fun j=>Iff.rfl,fun j o m=>⟨o,m,rfl,fun{C C' L lim nS pl} hd p=>?_⟩⟩
  .have:∀k,C' k=C k:=fun k=>(hd.1 k).elim id (fun⟨_,h1,_⟩=>by simp at h1)
   exact hv.mono ⟨fun k pl h=>(this k).trans h,hd.2⟩
  .have:∀k,C' k=C k:=fun k=>(hd.1 k).elim id (fun⟨_,h1,_⟩=>by simp at h1)
   exact p.mono (lW1 _) ⟨fun k pl h=>(this k).trans h,hd.2⟩ (fun _ _ _ _ _=>rfl)
 |(k,o)::t,e,h,K,r,hk=>by
  have other:dG o=true->jX t e h K=some r->∃e' h',K e' h'=some r/\
    (∀i w,eget e' i=some w->∃v,eget e i=some v/\∀{C C':Cx} {y:AV},Dif ((k,o)::t) C C'->RV C v y->RV C' w y)/\
    (∀j,hget h' j=none↔hget h j=none)/\∀j o',hget h' j=some o'->∃c,hget h j=some c/\dG o'=dG c/\
     ∀{C C':Cx} {L:Nat->Option AO} {lim nS:Nat} {pl:Pl},Dif ((k,o)::t) C C'->ObjR C L lim nS c pl->ObjR C' L lim nS o' pl:=by
   intro s hk
   obtain⟨e',h',q1,q2,q3,q4⟩:=kU hk
   have hd:∀{C C':Cx},Dif ((k,o)::t) C C'->Dif t C C':=fun{C C'} hd=>⟨fun j=>by
    rcases hd.1 j with h1|⟨c,h1,hx⟩
    .exact .inl h1
    .rcases mL1.1 h1 with h2|h2
     .cases h2;rw[s]at hx;cases hx
     .exact .inr ⟨_,h2,hx⟩,hd.2⟩
   refine⟨e',h',q1,fun i w hw=>?_,q3,fun j o' m=>?_⟩
   .obtain ⟨v,p1,p2⟩:=q2 i w hw
    exact⟨v,p1,fun d hv=>p2 (hd d) hv⟩
   .obtain ⟨c,p1,p2,p3⟩:=q4 j o' m
    exact⟨c,p1,p2,fun d p=>p3 (hd d) p⟩
  have f:dG o=false->(lN k e fun e=>gT k h fun h=>jX t e h K)=some r->∃e' h',K e' h'=some r/\
    (∀i w,eget e' i=some w->∃v,eget e i=some v/\∀{C C':Cx} {y:AV},Dif ((k,o)::t) C C'->RV C v y->RV C' w y)/\
    (∀j,hget h' j=none↔hget h j=none)/\∀j o',hget h' j=some o'->∃c,hget h j=some c/\dG o'=dG c/\
     ∀{C C':Cx} {L:Nat->Option AO} {lim nS:Nat} {pl:Pl},Dif ((k,o)::t) C C'->ObjR C L lim nS c pl->ObjR C' L lim nS o' pl:=by
   intro hb hk
   obtain⟨e2,hk,q⟩:=eP _ _ _ hk
   obtain⟨h2,hk,n⟩:=fQ _ _ _ hk
   obtain⟨e',h',q1,q2,q3,q4⟩:=kU hk
   have l:∀{C C':Cx},Dif ((k,o)::t) C C'->Same k C ⟨fun j=>if j=k then C' j else C j,C'.z⟩/\Dif t ⟨fun j=>if j=k then C' j else C j,C'.z⟩ C':=fun{C C'} hd=>by
    refine⟨⟨fun j m=>lY1 m,hd.2⟩,⟨fun j=>?_,fun _ _ h=>h⟩⟩
    by_cases e:j=k
    .exact .inl (by simp[e])
    .rcases hd.1 j with h1|⟨c,h1,hx⟩
     .exact .inl (by simp[e,h1])
     .rcases mL1.1 h1 with h2|h2
      .cases h2;exact absurd rfl e
      .exact .inr ⟨_,h2,hx⟩
   refine⟨e',h',q1,fun i w hw=>?_,fun j=>(q3 j).trans (n.1 j),fun j o' m=>?_⟩
   .obtain ⟨v,p1,p2⟩:=q2 i w hw
    obtain⟨x,w1,w2⟩:=q i v p1
    exact⟨x,w1,fun d hv=>p2 (l d).2 (w2 (l d).1 hv)⟩
   .obtain ⟨c,p1,p2,p3⟩:=q4 j o' m
    obtain⟨u,w1,w2,w3⟩:=n.2 j c p1
    exact⟨u,w1,p2.trans w2,fun d p=>p3 (l d).2 (w3 (l d).1 p)⟩
  unfold jX at hk
  cases o with
  |box cs=>exact other rfl hk
  |mp es=>exact other rfl hk
  |fl fs=>exact other rfl hk
  |loop N e ps a b busy fin=>exact other rfl hk
  |lz ty e1 dp rows=>exact f rfl hk
  |lst ty e1 g rows=>
   cases hfx:isFx ty with
   |true=>
    simp only[hfx,mF1]at hk
    exact other hfx hk
   |false=>
    simp only[hfx,mT1]at hk
    exact f hfx hk
end
end Go.P
