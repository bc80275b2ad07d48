import Derived.MapKept
import Derived.WalkKit
import Derived.Orders
import Derived.Laws.CopyRow
import Derived.Laws.CopyOwn
/- Part of the proofs over YtfklpkgdobdbpaaGreat: PvA, PvB, PvC, PvD, PvE, PvF, PvG, PvHd, PvH, PvI, PvJ, PvK, PvL, PvM, PvN, PvO, PvP, PvQ, PvR, PvS, PvT. -/
set_option linter.unusedVariables false
set_option linter.unusedSimpArgs false
set_option linter.unnecessarySimpa false
namespace Go.Pv
theorem zL{m n:Nat}(h:Nat.ble m n=true):m≤n:=Nat.le_of_ble_eq_true h
inductive D where
 |undef
 |skip
 |int (k:IntKind) (n:Int)
 |bool (b:Bool)
 |str (s:ByteArray)
 |float (k:FloatKind) (bits:Nat)
 |agg (cs:List D)
 |tup (vs:List D)
 |sl (rows:List (List D))
 |nilsl
 |ptr (cs:List D)
 |nilptr
 |clo (fn:Fn) (first caps:List D)
 |nilfunc
 |iface (t:TypeId) (d:D)
 |nilif
 |os (b off len:Nat)
 |op (b row off:Nat)
 |fr (k:Nat) (rows:List (List D))
 |om (b:Nat)
 deriving Inhabited
def qkw:D→Bool
 |.undef|.skip|.int .. |.bool _|.str _|.float .. |.sl _|.ptr _|.nilptr|.nilfunc|.nilif=>true
 |_=>false
structure Blk where
 k:Nat
 flat:Bool
 rows:List (List D)
def qan(rows:List (List D)):Bool:=rows.all fun r=>r.all qkw
abbrev Env:=List (Nat×D)
abbrev Hp:=List (Nat×Blk)
def lkE:Env→Nat→D
 |[],_=>.undef
 |(k,d)::e,s=>if s=k then d else lkE e s
def lkH:Hp→Nat→Option Blk
 |[],_=>none
 |(k,d)::e,s=>if s=k then some d else lkH e s
def qau(rows:List (List D))(i j:Nat):Option D:=(rows[i]?).bind (·[j]?)
inductive Ow where
 |dead|pending|empty
 |lies (g o k sz:Nat)
 |mp (g:Nat)
def Ow.on(o:Ow)(x:Nat):Prop:=match o with
 |.lies g _ _ _=>g=x
 |.mp g=>g=x
 |_=>False
theorem Ow.on_lies{ow:Nat→Ow}{b g o k sz:Nat}(h:ow b=.lies g o k sz):(ow b).on g:=by rw[h];rfl
theorem Ow.on_mp{ow:Nat→Ow}{b g:Nat}(h:ow b=.mp g):(ow b).on g:=by rw[h];rfl
inductive RepP(w:World)(pu:Nat→Prop):Value→D→Prop
 |undef (v:Value):RepP w pu v .undef
 |skip:RepP w pu Go.undef .skip
 |int (k:IntKind) (n:Int):RepP w pu (.int k n) (.int k n)
 |bool (b:Bool):RepP w pu (.bool b) (.bool b)
 |str (s:ByteArray):RepP w pu (.string s) (.str s)
 |float (k:FloatKind) (n:Nat):RepP w pu (.float k n) (.float k n)
 |agg (vs:Array Value) (cs:List D) (hl:vs.size=cs.length) (h:∀(i:Nat) (v:Value) (d:D),vs[i]? =some v→cs[i]? =some d→RepP w pu v d):RepP w pu (.agg vs) (.agg cs)
 |tup (vs:Array Value) (cs:List D) (hl:vs.size=cs.length) (h:∀(i:Nat) (v:Value) (d:D),vs[i]? =some v→cs[i]? =some d→RepP w pu v d):RepP w pu (.tuple vs) (.tup cs)
 |sl (a:Option Addr) (cap:Nat) (rows:List (List D)) (k:Nat) (f:Nat→Nat→Value) (hc:rows.length≤cap) (hk:∀r∈rows,r.length=k)
   (hm:rows≠[]→∃b off,a=some ⟨b,off,none⟩∧pu b∧∀i j,i<rows.length→j<k→w.cell? ⟨b,off+i*k+j,none⟩=some (f i j))
   (h:∀(i j:Nat) (d:D),qau rows i j=some d→RepP w pu (f i j) d):RepP w pu (.slice a rows.length cap) (.sl rows)
 |ptr (b off:Nat) (cs:List D) (f:Nat→Value) (hb:pu b) (hm:∀j,j<cs.length→w.cell? ⟨b,off+j,none⟩=some (f j))
   (h:∀(j:Nat) (d:D),cs[j]? =some d→RepP w pu (f j) d):RepP w pu (.pointer (some ⟨b,off,none⟩)) (.ptr cs)
 |nilptr:RepP w pu (.pointer none) .nilptr
 |clo (fn:Fn) (xs ys:Array Value) (cs ds:List D) (hx:xs.size=cs.length) (h:∀(i:Nat) (v:Value) (d:D),xs[i]? =some v→cs[i]? =some d→RepP w pu v d)
   (hy:ys.size=ds.length) (h':∀(i:Nat) (v:Value) (d:D),ys[i]? =some v→ds[i]? =some d→RepP w pu v d):RepP w pu (.func fn xs ys) (.clo fn cs ds)
 |nilfunc:RepP w pu .nilFunc .nilfunc
 |iface (t:TypeId) (v:Value) (d:D) (h:RepP w pu v d):RepP w pu (.iface t v) (.iface t d)
 |nilif:RepP w pu .nilIface .nilif
inductive Rep(w:World)(pu:Nat→Prop)(ow:Nat→Ow):Value→D→Prop
 |pure (v:Value) (d:D) (h:RepP w pu v d):Rep w pu ow v d
 |agg (vs:Array Value) (cs:List D) (hl:vs.size=cs.length) (h:∀(i:Nat) (v:Value) (d:D),vs[i]? =some v→cs[i]? =some d→Rep w pu ow v d):Rep w pu ow (.agg vs) (.agg cs)
 |tup (vs:Array Value) (cs:List D) (hl:vs.size=cs.length) (h:∀(i:Nat) (v:Value) (d:D),vs[i]? =some v→cs[i]? =some d→Rep w pu ow v d):Rep w pu ow (.tuple vs) (.tup cs)
 |clo (fn:Fn) (xs ys:Array Value) (cs ds:List D) (hx:xs.size=cs.length) (h:∀(i:Nat) (v:Value) (d:D),xs[i]? =some v→cs[i]? =some d→Rep w pu ow v d)
   (hy:ys.size=ds.length) (h':∀(i:Nat) (v:Value) (d:D),ys[i]? =some v→ds[i]? =some d→Rep w pu ow v d):Rep w pu ow (.func fn xs ys) (.clo fn cs ds)
 |iface (t:TypeId) (v:Value) (d:D) (h:Rep w pu ow v d):Rep w pu ow (.iface t v) (.iface t d)
 |nilsl:Rep w pu ow (.slice none 0 0) .nilsl
 |osd (a:Option Addr) (n c b off len:Nat) (hb:ow b=.dead):Rep w pu ow (.slice a n c) (.os b off len)
 |ose (a:Option Addr) (b off:Nat) (hb:ow b=.empty):Rep w pu ow (.slice a 0 0) (.os b off 0)
 |osa (a:Option Addr) (cap b off len g o k sz:Nat) (hb:ow b=.lies g o k sz) (hl:len≤cap)
   (hm:0<cap→a=some ⟨g,o+off*k,none⟩∧o+(off+cap)*k≤sz):Rep w pu ow (.slice a len cap) (.os b off len)
 |opd (a:Option Addr) (b row off:Nat) (hb:ow b=.dead):Rep w pu ow (.pointer a) (.op b row off)
 |opa (b row off g o k sz:Nat) (hb:ow b=.lies g o k sz):Rep w pu ow (.pointer (some ⟨g,o+row*k+off,none⟩)) (.op b row off)
 |omd (r:Option Nat) (b:Nat) (hb:ow b=.dead):Rep w pu ow (.map r) (.om b)
 |oma (b g:Nat) (hb:ow b=.mp g):Rep w pu ow (.map (some g)) (.om b)
def qf9:D→Option Value
 |.int k n=>some (.int k n)
 |.bool b=>some (.bool b)
 |.str s=>some (.string s)
 |_=>none
def qhj(es:List MapEntry)(rows:List (List D)):Prop:=rows.map (fun r=>r.map qf9)=es.map fun e=>[some e.key,some e.val]
def qb5(w:World)(pu:Nat→Prop)(ow:Nat→Ow)(o:Ow)(blk:Blk):Prop:=
 (blk.flat=true→qan blk.rows=true)∧match o with
 |.dead=>False
 |.pending=>True
 |.empty=>blk.rows=[]
 |.lies g o k sz=>blk.k=k∧0<k∧(∀r∈blk.rows,r.length=k)∧o+blk.rows.length*k≤sz∧
   ∃c t,w.heap[g]? =some (.cells c t (0,0))∧c.size=sz∧∀(i j:Nat) (d:D),qau blk.rows i j=some d→∃v,c[o+i*k+j]? =some v∧Rep w pu ow v d
 |.mp g=>(blk.flat=true∧blk.k=0)∧∃es clock,w.heap[g]? =some (.map es clock)∧qhj es.toList blk.rows
structure Mem(base:Nat)(w:World)(pu:Nat→Prop)(ow:Nat→Ow)(hp:Nat→Option Blk):Prop where
 blk:∀b blk,hp b=some blk→qb5 w pu ow (ow b) blk
 none:∀b,hp b=none→ow b=.dead∨ow b=.pending
 injO:∀b b' g,(ow b).on g→(ow b').on g→b=b'
 ownO:∀b g,(ow b).on g→base≤g∧¬pu g
 zone:∀g,pu g→g<w.heap.size
theorem Mem.inj{base:Nat}{w:World}{pu:Nat→Prop}{ow:Nat→Ow}{hp:Nat→Option Blk}(hm:Mem base w pu ow hp)(b b' g o k sz o' k' sz':Nat)(h:ow b=.lies g o k sz)(h':ow b'=.lies g o' k' sz'):b=b':=hm.injO b b' g (Ow.on_lies h) (Ow.on_lies h')
theorem Mem.own{base:Nat}{w:World}{pu:Nat→Prop}{ow:Nat→Ow}{hp:Nat→Option Blk}(hm:Mem base w pu ow hp)(b g o k sz:Nat)(h:ow b=.lies g o k sz):base≤g∧¬pu g:=hm.ownO b g (Ow.on_lies h)
structure Ext(w:World)(pu:Nat→Prop)(ow:Nat→Ow)(w':World)(pu':Nat→Prop)(ow':Nat→Ow):Prop where
 zone:∀g,pu g→pu' g∧w'.heap[g]? =w.heap[g]?
 ow:∀b,ow b=.pending∨ow' b=ow b∨ow' b=.dead
theorem Ext.refl(w:World)(pu:Nat→Prop)(ow:Nat→Ow):Ext w pu ow w pu ow:=⟨fun _ h=>⟨h,rfl⟩,fun _=>.inr (.inl rfl)⟩
theorem Ext.trans{w w' w'':World}{pu pu' pu'':Nat→Prop}{ow ow' ow'':Nat→Ow}(h:Ext w pu ow w' pu' ow')(h':Ext w' pu' ow' w'' pu'' ow'')
  (hd:∀b,ow' b=.dead→ow'' b=.dead) (hp:∀b,ow' b=.pending→ow b=.pending):Ext w pu ow w'' pu'' ow'':=by
 refine⟨fun g hg=>⟨(h'.zone g (h.zone g hg).1).1,((h'.zone g (h.zone g hg).1).2).trans (h.zone g hg).2⟩,fun b=>?_⟩
 rcases h.ow b with h1|h1|h1
 ·exact .inl h1
 ·rcases h'.ow b with h2|h2|h2
  ·exact .inl (hp b h2)
  ·exact .inr (.inl (h2.trans h1))
  ·exact .inr (.inr h2)
 ·exact .inr (.inr (hd b h1))
theorem RepP.mono{w w':World}{pu pu':Nat→Prop}(hz:∀g,pu g→pu' g∧w'.heap[g]? =w.heap[g]?){v:Value}{d:D}(h:RepP w pu v d):RepP w' pu' v d:=by
 induction h with
 |undef v=>exact .undef v
 |skip=>exact .skip
 |int k n=>exact .int k n
 |bool b=>exact .bool b
 |str s=>exact .str s
 |float k n=>exact .float k n
 |agg vs cs hl _ ih=>exact .agg vs cs hl ih
 |tup vs cs hl _ ih=>exact .tup vs cs hl ih
 |sl a cap rows k f hc hk hm _ ih=>
  refine .sl a cap rows k f hc hk (fun hne=>?_) ih
  obtain⟨b,off,ha,hb,hcell⟩:=hm hne
  refine⟨b,off,ha,(hz b hb).1,fun i j hi hj=>?_⟩
  rw[World.cell?_of_block (w:=w) (hz b hb).2]
  exact hcell i j hi hj
 |ptr b off cs f hb hm _ ih=>
  refine .ptr b off cs f (hz b hb).1 (fun j hj=>?_) ih
  rw[World.cell?_of_block (w:=w) (hz b hb).2]
  exact hm j hj
 |nilptr=>exact .nilptr
 |clo fn xs ys cs ds hx _ hy _ ih ih'=>exact .clo fn xs ys cs ds hx ih hy ih'
 |nilfunc=>exact .nilfunc
 |iface t v d _ ih=>exact .iface t v d ih
 |nilif=>exact .nilif
theorem Rep.mono{w w':World}{pu pu':Nat→Prop}{ow ow':Nat→Ow}(he:Ext w pu ow w' pu' ow'){v:Value}{d:D}(h:Rep w pu ow v d):Rep w' pu' ow' v d:=by
 induction h with
 |pure v d h=>exact .pure v d (h.mono he.zone)
 |agg vs cs hl _ ih=>exact .agg vs cs hl ih
 |tup vs cs hl _ ih=>exact .tup vs cs hl ih
 |clo fn xs ys cs ds hx _ hy _ ih ih'=>exact .clo fn xs ys cs ds hx ih hy ih'
 |iface t v d _ ih=>exact .iface t v d ih
 |nilsl=>exact .nilsl
 |osd a n c b off len hb=>
  rcases he.ow b with h|h|h
  ·rw[hb]at h;cases h
  ·exact .osd a n c b off len (h.trans hb)
  ·exact .osd a n c b off len h
 |ose a b off hb=>
  rcases he.ow b with h|h|h
  ·rw[hb]at h;cases h
  ·exact .ose a b off (h.trans hb)
  ·exact .osd a 0 0 b off 0 h
 |osa a cap b off len g o k sz hb hl hm=>
  rcases he.ow b with h|h|h
  ·rw[hb]at h;cases h
  ·exact .osa a cap b off len g o k sz (h.trans hb) hl hm
  ·exact .osd a len cap b off len h
 |opd a b row off hb=>
  rcases he.ow b with h|h|h
  ·rw[hb]at h;cases h
  ·exact .opd a b row off (h.trans hb)
  ·exact .opd a b row off h
 |opa b row off g o k sz hb=>
  rcases he.ow b with h|h|h
  ·rw[hb]at h;cases h
  ·exact .opa b row off g o k sz (h.trans hb)
  ·exact .opd _ b row off h
 |omd v b hb=>
  rcases he.ow b with h|h|h
  ·rw[hb]at h;cases h
  ·exact .omd v b (h.trans hb)
  ·exact .omd v b h
 |oma b g hb=>
  rcases he.ow b with h|h|h
  ·rw[hb]at h;cases h
  ·exact .oma b g (h.trans hb)
  ·exact .omd _ b h
def qDY:Value→D
 |.bool b=>.bool b
 |.int k n=>.int k n
 |.float k n=>.float k n
 |.string s=>.str s
 |.pointer none=>.nilptr
 |.slice none 0 0=>.nilsl
 |.nilFunc=>.nilfunc
 |.nilIface=>.nilif
 |_=>.undef
def ofV:Value→D
 |.agg cs=>.agg (cs.toList.map qDY)
 |v=>qDY v
def qac(env:Env):Operand→D
 |.tmp t=>lkE env t
 |.const v=>ofV v
 |.global _=>.undef
 |.func f=>.clo (.func f) [] []
def qai:D→List D
 |.agg cs=>cs
 |d=>[d]
def known:D→Bool
 |.undef=>false
 |_=>true
def qhk:D→Bool
 |.undef|.skip|.agg _|.tup _|.fr .. =>false
 |_=>true
inductive Sh where
 |bad|one|many (n:Nat)
def sh(P:Program)(t:TypeId):Sh:=
 match P.underlying t with
 |none=>.bad
 |some (.struct _)|some (.array _ _)=>if P.cellsOf t=0 then .bad else .many (P.cellsOf t)
 |some _=>.one
def qa5(s:Sh)(cs:List D):Option D:=
 match s with
 |.bad=>none
 |.one=>cs.head?
 |.many n=>if n≤cs.length then some (.agg (cs.take n))else none
def qmx(P:Program)(s:TypeId)(f:Nat):Option (Nat×TypeId):=
 match P.underlying s with
 |some (.struct fields)=>(fields[f]?).map fun x=>(x.offset,x.type)
 |_=>none
inductive Kd where
 |i|s|b
def qvH(P:Program)(t:TypeId):Option Kd:=
 match P.underlying t with
 |some (.int _)=>some .i
 |some .string=>some .s
 |some .bool=>some .b
 |_=>none
def eqFields(P:Program):Nat→List Field→Option (List Kd)
 |_,[]=>some []
 |i,f::fs=>if f.name != "_" &&f.offset==i then(qvH P f.type).bind fun k=>(eqFields P (i+1) fs).map (k:: ·)else none
def qEf(P:Program)(t:TypeId):Option (List Kd):=
 match P.underlying t with
 |some (.struct fields)=>if !P.stoodInHeld t&& !P.eqGuardType P.depth t then eqFields P 0 fields.toList else none
 |_=>none
def qcA:List Kd→List D→List D→Option Bool
 |[],[],[]=>some true
 |.i::ks,.int k a::x,.int k' b::y=>if k=k' then(qcA ks x y).map (decide (a=b)&& ·)else none
 |.s::ks,.str a::x,.str b::y=>(qcA ks x y).map (decide (a=b)&& ·)
 |.b::ks,.bool a::x,.bool b::y=>(qcA ks x y).map (decide (a=b)&& ·)
 |_,_,_=>none
def qvI(o:BinOp)(k:IntKind)(a b:Int):Option D:=
 match o with
 |.add=>some (.int k (k.wrap (a+b)))
 |.sub=>some (.int k (k.wrap (a-b)))
 |.mul=>some (.int k (k.wrap (a*b)))
 |.quo=>if b=0 then none else some (.int k (k.wrap (a.tdiv b)))
 |.rem=>if b=0 then none else some (.int k (a.tmod b))
 |.eql=>some (.bool (decide (a=b)))
 |.neq=>some (.bool (!decide (a=b)))
 |.lss=>some (.bool (decide (a<b)))
 |.leq=>some (.bool (decide (a≤b)))
 |.gtr=>some (.bool (decide (b<a)))
 |.geq=>some (.bool (decide (b≤a)))
 |.and=>some (.int k (k.wrap (BitVec.ofInt k.bits a&&&BitVec.ofInt k.bits b).toNat))
 |.or=>some (.int k (k.wrap (BitVec.ofInt k.bits a|||BitVec.ofInt k.bits b).toNat))
 |_=>none
def qoG(P:Program)(o:BinOp)(t:TypeId)(x y:D):Option D:=
 match x,y with
 |.int k a,.int k' b=>
  match o with
  |.shl=>if 0≤b then some (.int k (k.wrap (a*2^(min b.toNat k.bits))))else none
  |.shr=>if 0≤b then some (.int k (a.fdiv (2^(min b.toNat k.bits))))else none
  |o=>if k=k' then qvI o k a b else none
 |.str a,.str b=>
  match o with
  |.eql=>some (.bool (decide (a=b)))
  |.neq=>some (.bool (!decide (a=b)))
  |_=>none
 |.bool a,.bool b=>
  match o,P.underlying t with
  |.eql,some .bool=>some (.bool (a==b))
  |.neq,some .bool=>some (.bool (!(a==b)))
  |_,_=>none
 |.agg a,.agg b=>
  match o with
  |.eql=>(qEf P t).bind fun ks=>(qcA ks a b).map .bool
  |.neq=>(qEf P t).bind fun ks=>(qcA ks a b).map (fun z=>.bool (!z))
  |_=>none
 |_,_=>none
def unD(o:UnOp)(x:D):Option D:=
 match o,x with
 |.neg,.int k n=>some (.int k (k.wrap (0-n)))
 |.not,.bool b=>some (.bool !b)
 |_,_=>none
def qnu(P:Program)(dst:TypeId)(src:TypeId)(x:D):Option D:=
 match P.underlying dst,x with
 |some (.int k),.int _ n=>if(P.underlying src).isSome then some (.int k (k.wrap n))else none
 |some (.float k),.int _ n=>if(P.underlying src).isSome then some (.float k (k.nearest n))else none
 |some (.int k),.float s b=>
  match(P.underlying src).isSome,(s.decode b).toInt .zero with
  |true,some n=>if k.min≤n∧n≤k.max then some (.int k n)else none
  |_,_=>none
 |_,_=>none
def qb6(rows:List (List D))(n:Nat):List D:=rows.getD n []
def qdc(P:Program)(hp:Nat→Option Blk)(t:TypeId)(x i:D):Option D:=
 match P.underlying t,x,i with
 |some (.slice e),.sl rows,.int _ n=>
  if 0≤n∧n<rows.length∧(qb6 rows n.toNat).length=P.cellsOf e∧0<P.cellsOf e then some (.ptr (qb6 rows n.toNat))else none
 |some (.slice e),.os b off len,.int _ n=>
  match hp b with
  |some blk=>if 0≤n∧n<len∧off+len≤blk.rows.length∧blk.k=P.cellsOf e∧0<P.cellsOf e then some (.op b (off+n.toNat) 0)else none
  |none=>none
 |some (.array len e),.ptr cs,.int _ n=>if 0≤n∧n<len∧0<P.cellsOf e then some (.ptr (cs.drop (n.toNat*P.cellsOf e)))else none
 |some (.array len e),.op b row off,.int _ n=>
  match hp b with
  |some _=>if 0≤n∧n<len∧0<P.cellsOf e then some (.op b row (off+n.toNat*P.cellsOf e))else none
  |none=>none
 |_,_,_=>none
def qdu(s:ByteArray)(i:Nat):Int:=(s[i]?.getD 0).toNat
def qmy(P:Program)(t:TypeId)(x i:D):Option D:=
 match P.underlying t,x,i with
 |some .string,.str s,.int _ n=>if 0≤n∧n<s.size then some (.int .u8 (qdu s n.toNat))else none
 |some (.array len e),.agg cs,.int _ n=>if 0≤n∧n<len∧0<P.cellsOf e then qa5 (sh P e) (cs.drop (n.toNat*P.cellsOf e))else none
 |_,_,_=>none
def qhS(P:Program)(hp:Nat→Option Blk)(t:TypeId)(x:D):Option D:=
 match x with
 |.ptr cs=>qa5 (sh P t) cs
 |.op b row off=>(hp b).bind fun blk=>qa5 (sh P t) ((qb6 blk.rows row).drop off)
 |_=>none
def qdz(P:Program)(hp:Nat→Option Blk)(s:TypeId)(x:D)(f:Nat):Option D:=
 match qmx P s f,x with
 |some (o,t),.ptr cs=>if P.cellsOf t=0 then none else some (.ptr (cs.drop o))
 |some (o,t),.op b row off=>if P.cellsOf t=0∨(hp b).isNone then none else some (.op b row (off+o))
 |_,_=>none
def qoK(P:Program)(s:TypeId)(x:D)(f:Nat):Option D:=
 match qmx P s f,x with
 |some (o,t),.agg cs=>qa5 (sh P t) (cs.drop o)
 |_,_=>none
def qd9(d:Option D)(dflt:Nat):Option Nat:=
 match d with
 |none=>some dflt
 |some (.int _ n)=>if 0≤n then some n.toNat else none
 |_=>none
def qjx(P:Program)(hp:Nat→Option Blk)(t:TypeId)(x:D)(lo hi:Option D):Option D:=
 match P.underlying t,x with
 |some .string,.str s=>
  match qd9 lo 0,qd9 hi s.size with
  |some l,some h=>if l≤h∧h≤s.size then some (.str (s.extract l h))else none
  |_,_=>none
 |some (.slice e),.sl rows=>
  match qd9 lo 0,qd9 hi rows.length with
  |some l,some h=>if l≤h∧h≤rows.length∧0<P.cellsOf e∧(∀r∈rows,r.length=P.cellsOf e)then some (.sl ((rows.take h).drop l))else none
  |_,_=>none
 |some (.slice e),.os b off len=>
  match hp b,qd9 lo 0,qd9 hi len with
  |some blk,some l,some h=>if l≤h∧h≤len∧0<P.cellsOf e∧blk.k=P.cellsOf e then some (.os b (off+l) (h-l))else none
  |_,_,_=>none
 |_,_=>none
def qA0(P:Program)(hp:Nat→Option Blk)(t:TypeId)(x:D):Option D:=
 match P.underlying t,x with
 |some .string,.str s=>some (.int .i64 s.size)
 |some (.array n _),_=>some (.int .i64 n)
 |some (.slice _),.sl rows=>some (.int .i64 rows.length)
 |some (.slice _),.os b _ len=>(hp b).map fun _=>.int .i64 len
 |some (.slice _),.nilsl=>some (.int .i64 0)
 |_,_=>none
def qtZ:D→D→Option D
 |.int k x,.int _ y=>some (.int k (if y<x then y else x))
 |_,_=>none
def qt0:D→D→Option D
 |.int k x,.int _ y=>some (.int k (if x<y then y else x))
 |_,_=>none
def qhl(f:D→D→Option D):D→List D→Option D
 |d,[]=>some d
 |d,x::xs=>(f d x).bind fun e=>qhl f e xs
def qBY(c a b:D):Option D:=
 match c with
 |.bool p=>some (if p then a else b)
 |_=>none
def qga(hp:Nat→Option Blk)(x:D):Option D:=
 match x with
 |.ptr cs=>some (.ptr cs)
 |.op b r o=>if(hp b).isSome then some (.op b r o)else none
 |.clo (.func f) xs ys=>some (.clo (.func f) xs ys)
 |_=>none
def qj7(x:D)(i:Nat):Option D:=
 match x with
 |.tup vs=>vs[i]?
 |_=>none
def qvJ:TypeDesc→D→D→Option Bool
 |.int _,.int k a,.int k' b=>if k=k' then some (a==b)else none
 |.string,.str a,.str b=>some (a==b)
 |_,_,_=>none
def qt1:TypeDesc→D→Bool
 |.int k,.int k' _=>k'==k
 |.string,.str _=>true
 |_,_=>false
def findR(td:TypeDesc)(k:D):List (List D)→Option (Option D)
 |[]=>some none
 |[kk,v]::rs=>match qvJ td k kk with
  |some true=>if(qf9 v).isSome then some (some v)else none
  |some false=>findR td k rs
  |none=>none
 |_::_=>none
def qiT(P:Program)(hp:Nat→Option Blk)(t:TypeId)(m k:D):Option D:=
 match P.underlying t,m with
 |some (.map kt et),.om b=>(hp b).bind fun blk=>(P.underlying kt).bind fun td=>
  if qt1 td k=true then
   match findR td k blk.rows with
   |some (some v)=>some v
   |some none=>((P.info? et).bind (·.zero)).map ofV
   |none=>none
  else none
 |_,_=>none
def qBZ(P:Program)(t:TypeId)(x:D):Option D:=
 match P.underlying t with
 |some (.interface _)=>none
 |some _=>some (.iface t x)
 |none=>none
def op0(P:Program)(ρ:Operand→D)(hp:Nat→Option Blk)(o:Op):Option D:=
 match o with
 |.move x|.assign x=>some (ρ x)
 |.pick c a b=>qBY (ρ c) (ρ a) (ρ b)
 |.load t a=>qhS P hp t (ρ a)
 |.nilCheck x=>qga hp (ρ x)
 |.binOp op t x y _=>qoG P op t (ρ x) (ρ y)
 |.unOp op _ x=>unD op (ρ x)
 |.convert s d x=>qnu P d s (ρ x)
 |.makeFunc fn xs ys=>some (.clo fn (xs.toList.map ρ) (ys.toList.map ρ))
 |.slice t x lo hi none=>qjx P hp t (ρ x) (lo.map ρ) (hi.map ρ)
 |.fieldAddr s x f=>qdz P hp s (ρ x) f
 |.field s x f=>qoK P s (ρ x) f
 |.indexAddr t x i=>qdc P hp t (ρ x) (ρ i)
 |.index t x i=>qmy P t (ρ x) (ρ i)
 |.extract t i=>qj7 (ρ t) i
 |.lookup t m k false=>qiT P hp t (ρ m) (ρ k)
 |.call {callee:=.builtin .len,args:=xs,argTypes:=ts}=>
  match xs.toList,ts.toList with
  |[x],[t]=>qA0 P hp t (ρ x)
  |_,_=>none
 |.call {callee:=.builtin .min,args:=xs,..}=>
  match xs.toList with
  |x::r=>qhl qtZ (ρ x) (r.map ρ)
  |_=>none
 |.call {callee:=.builtin .max,args:=xs,..}=>
  match xs.toList with
  |x::r=>qhl qt0 (ρ x) (r.map ρ)
  |_=>none
 |.makeInterface t x=>qBZ P t (ρ x)
 |_=>none
section inv
variable {w:World}{pu:Nat→Prop}{ow:Nat→Ow}{v:Value}
theorem Rep.int_inv{k:IntKind}{n:Int}(h:Rep w pu ow v (.int k n)):v=.int k n:=by
 cases h with|pure _ _ h=>cases h;rfl
theorem Rep.bool_inv{b:Bool}(h:Rep w pu ow v (.bool b)):v=.bool b:=by
 cases h with|pure _ _ h=>cases h;rfl
theorem Rep.str_inv{s:ByteArray}(h:Rep w pu ow v (.str s)):v=.string s:=by
 cases h with|pure _ _ h=>cases h;rfl
theorem Rep.agg_inv{cs:List D}(h:Rep w pu ow v (.agg cs)):∃vs:Array Value,v=.agg vs∧vs.size=cs.length∧∀(i:Nat) (v:Value) (d:D),vs[i]? =some v→cs[i]? =some d→Rep w pu ow v d:=by
 cases h with
 |pure _ _ h=>cases h with|agg vs _ hl h=>exact⟨vs,rfl,hl,fun i v d h1 h2=>.pure _ _ (h i v d h1 h2)⟩
 |agg vs _ hl h=>exact⟨vs,rfl,hl,h⟩
theorem Rep.tup_inv{cs:List D}(h:Rep w pu ow v (.tup cs)):∃vs:Array Value,v=.tuple vs∧vs.size=cs.length∧∀(i:Nat) (v:Value) (d:D),vs[i]? =some v→cs[i]? =some d→Rep w pu ow v d:=by
 cases h with
 |pure _ _ h=>cases h with|tup vs _ hl h=>exact⟨vs,rfl,hl,fun i v d h1 h2=>.pure _ _ (h i v d h1 h2)⟩
 |tup vs _ hl h=>exact⟨vs,rfl,hl,h⟩
theorem Rep.clo_inv{fn:Fn}{cs ds:List D}(h:Rep w pu ow v (.clo fn cs ds)):∃xs ys:Array Value,v=.func fn xs ys∧xs.size=cs.length∧(∀(i:Nat) (v:Value) (d:D),xs[i]? =some v→cs[i]? =some d→Rep w pu ow v d)∧
  ys.size=ds.length∧∀(i:Nat) (v:Value) (d:D),ys[i]? =some v→ds[i]? =some d→Rep w pu ow v d:=by
 cases h with
 |pure _ _ h=>cases h with|clo fn xs ys _ _ hx h hy h'=>exact⟨xs,ys,rfl,hx,fun i v d h1 h2=>.pure _ _ (h i v d h1 h2),hy,fun i v d h1 h2=>.pure _ _ (h' i v d h1 h2)⟩
 |clo fn xs ys _ _ hx h hy h'=>exact⟨xs,ys,rfl,hx,h,hy,h'⟩
theorem Rep.sl_inv{rows:List (List D)}(h:Rep w pu ow v (.sl rows)):∃(a:Option Addr) (cap k:Nat) (f:Nat→Nat→Value),v=.slice a rows.length cap∧rows.length≤cap∧(∀r∈rows,r.length=k)∧
  (rows≠[]→∃b off,a=some ⟨b,off,none⟩∧pu b∧∀i j,i<rows.length→j<k→w.cell? ⟨b,off+i*k+j,none⟩=some (f i j))∧
  ∀(i j:Nat) (d:D),qau rows i j=some d→RepP w pu (f i j) d:=by
 cases h with|pure _ _ h=>cases h with|sl a cap _ k f hc hk hm h=>exact⟨a,cap,k,f,rfl,hc,hk,hm,h⟩
theorem Rep.ptr_inv{cs:List D}(h:Rep w pu ow v (.ptr cs)):∃(b off:Nat) (f:Nat→Value),v=.pointer (some ⟨b,off,none⟩)∧pu b∧(∀j,j<cs.length→w.cell? ⟨b,off+j,none⟩=some (f j))∧
  ∀(j:Nat) (d:D),cs[j]? =some d→RepP w pu (f j) d:=by
 cases h with|pure _ _ h=>cases h with|ptr b off _ f hb hm h=>exact⟨b,off,f,rfl,hb,hm,h⟩
theorem Rep.nilsl_inv(h:Rep w pu ow v .nilsl):v=.slice none 0 0:=by
 cases h with
 |pure _ _ h=>cases h
 |nilsl=>rfl
theorem Rep.os_inv{b off len:Nat}(h:Rep w pu ow v (.os b off len))(hb:ow b≠ .dead):∃(a:Option Addr) (cap:Nat),v=.slice a len cap∧
  ((ow b=.empty∧len=0∧cap=0)∨∃g o k sz,ow b=.lies g o k sz∧len≤cap∧(0<cap→a=some ⟨g,o+off*k,none⟩∧o+(off+cap)*k≤sz)):=by
 cases h with
 |pure _ _ h=>cases h
 |osd a n c _ _ _ h=>exact(hb h).elim
 |ose a _ _ h=>exact⟨a,0,rfl,.inl ⟨h,rfl,rfl⟩⟩
 |osa a cap _ _ _ g o k sz h hl hm=>exact⟨a,cap,rfl,.inr ⟨g,o,k,sz,h,hl,hm⟩⟩
theorem Rep.op_inv{b row off:Nat}(h:Rep w pu ow v (.op b row off))(hb:ow b≠ .dead):∃g o k sz,ow b=.lies g o k sz∧v=.pointer (some ⟨g,o+row*k+off,none⟩):=by
 cases h with
 |pure _ _ h=>cases h
 |opd a _ _ _ h=>exact(hb h).elim
 |opa _ _ _ g o k sz h=>exact⟨g,o,k,sz,h,rfl⟩
theorem Rep.om_inv{b:Nat}(h:Rep w pu ow v (.om b))(hb:ow b≠ .dead):∃g,ow b=.mp g∧v=.map (some g):=by
 cases h with
 |pure _ _ h=>cases h
 |omd _ _ h=>exact(hb h).elim
 |oma _ g h=>exact⟨g,h,rfl⟩
end inv
theorem qy7(w:World)(pu:Nat→Prop)(v:Value):RepP w pu v (qDY v)∨(v=.slice none 0 0∧qDY v=.nilsl):=by
 cases v with
 |pointer a=>cases a with
  |none=>exact .inl .nilptr
  |some a=>exact .inl (.undef _)
 |slice a n c=>
  unfold qDY
  split<;>first|exact .inl (.undef _)|(rename_i h;cases h;exact .inr ⟨rfl,rfl⟩)|(rename_i h;cases h)
 |bool b=>exact .inl (.bool b)
 |int k n=>exact .inl (.int k n)
 |float k n=>exact .inl (.float k n)
 |string s=>exact .inl (.str s)
 |nilFunc=>exact .inl .nilfunc
 |nilIface=>exact .inl .nilif
 |_=>exact .inl (.undef _)
theorem qoL(w:World)(pu:Nat→Prop)(ow:Nat→Ow)(v:Value):Rep w pu ow v (qDY v):=by
 rcases qy7 w pu v with h|⟨rfl,h⟩
 ·exact .pure _ _ h
 ·rw[h];exact .nilsl
theorem qhm(w:World)(pu:Nat→Prop)(ow:Nat→Ow)(v:Value):Rep w pu ow v (ofV v):=by
 unfold ofV
 split
 ·rename_i cs
  refine .agg cs _ (by simp) fun i v d h1 h2=>?_
  simp only[List.getElem?_map,Array.getElem?_toList,h1,Option.map_some,Option.some.injEq]at h2
  rw[←h2]
  exact qoL w pu ow v
 ·exact qoL w pu ow v
def qfB(w:World)(pu:Nat→Prop)(ow:Nat→Ow)(env:Env)(a:Act):Prop:=∀s,Rep w pu ow (a.tmps.getD s undef) (lkE env s)
theorem qfB.eval{w:World}{pu:Nat→Prop}{ow:Nat→Ow}{env:Env}{a:Act}(h:qfB w pu ow env a)(x:Operand):Rep w pu ow (a.eval x) (qac env x):=by
 cases x with
 |tmp t=>exact h t
 |const v=>exact qhm w pu ow v
 |global g=>exact .pure _ _ (.undef _)
 |func f=>exact .clo _ #[] #[] [] [] rfl (by simp) rfl (by simp)
theorem Addr.add_spotless(b off n:Nat):(⟨b,off,none⟩:Addr).add n=⟨b,off+n,none⟩:=by
 unfold Addr.add
 split
 ·rename_i h;simp[h]
 ·rfl
theorem qfC{P:Program}{t:TypeId}(h:0<P.cellsOf t):∃i,P.info? t=some i:=by
 unfold Program.cellsOf at h
 cases hi:P.info? t with
 |some i=>exact⟨i,rfl⟩
 |none=>rw[hi]at h;simp at h
theorem qbc{P:Program}{t:TypeId}(h:0<P.cellsOf t)(w:World):(sizeOf t).run P w=.ok (P.cellsOf t) w:=by
 obtain⟨i,hi⟩:=qfC h
 simp[sizeOf,typeInfo,hi,Program.cellsOf]
theorem qeT{P:Program}{t:TypeId}(w:World):sh P t≠ .bad→(isAgg t).run P w=.ok (match sh P t with|.many _=>true|_=>false) w:=by
 unfold sh isAgg
 intro h
 cases hu:P.underlying t with
 |none=>simp[hu]at h
 |some d=>
  rw[Sem.run_bind,run_underlying hu]
  simp only[hu]at h ⊢
  cases d<;>simp at h ⊢ <;>simp_all
theorem qvK{P:Program}{t:TypeId}{n:Nat}(h:sh P t=.many n):n=P.cellsOf t∧0<n:=by
 unfold sh at h
 split at h
 ·cases h
 ·split at h
  ·cases h
  ·injection h with h;subst h;exact⟨rfl,by omega⟩
 ·split at h
  ·cases h
  ·injection h with h;subst h;exact⟨rfl,by omega⟩
 ·cases h
theorem qdP{P:Program}{w:World}{pu:Nat→Prop}{ow:Nat→Ow}{t:TypeId}{b off:Nat}{cs:List D}{d:D}
  (hc:∀j c,cs[j]? =some c→∃v,w.cell? ⟨b,off+j,none⟩=some v∧Rep w pu ow v c) (h:qa5 (sh P t) cs=some d):
  ∃v,(loadVar t ⟨b,off,none⟩).run P w=.ok v w∧Rep w pu ow v d:=by
 unfold loadVar
 rw[Sem.run_bind]
 cases hs:sh P t with
 |bad=>rw[hs]at h;simp[qa5]at h
 |one=>
  rw[qeT w (by rw[hs];simp),hs]
  rw[hs]at h
  simp only[qa5]at h
  obtain⟨v,h1,h2⟩:=hc 0 d (by rw[List.head?_eq_getElem?]at h;exact h)
  simp only[Nat.add_zero]at h1
  exact⟨v,by simp[h1],h2⟩
 |many n=>
  rw[qeT w (by rw[hs];simp),hs]
  rw[hs]at h
  simp only[qa5]at h
  split at h
  ·rename_i hle
   injection h with h
   subst h
   obtain⟨rfl,hpos⟩:=qvK hs
   have hf:∃f:Nat→Value,∀j,j<P.cellsOf t→w.cell? ((⟨b,off,none⟩:Addr).add j)=some (f j)∧∀c,cs[j]? =some c→Rep w pu ow (f j) c:=by
    refine⟨fun j=>(w.cell? ((⟨b,off,none⟩:Addr).add j)).getD undef,fun j hj=>?_⟩
    obtain⟨v,h1,h2⟩:=hc j _ (List.getElem?_eq_getElem (by omega))
    have e:(w.cell? ((⟨b,off,none⟩:Addr).add j)).getD undef=v:=by rw[Addr.add_spotless,h1];rfl
    dsimp only
    rw[e,Addr.add_spotless,h1]
    exact⟨rfl,fun c hcj=>by rw[List.getElem?_eq_getElem (by omega)]at hcj;injection hcj with hcj;rw[←hcj];exact h2⟩
   obtain⟨f,hf⟩:=hf
   refine⟨.agg ((List.range (P.cellsOf t)).map f).toArray,?_,?_⟩
   ·simp[qbc hpos,run_loadCells w _ _ f (fun j hj=>(hf j hj).1)]
   ·refine .agg _ _ (by simp;omega) fun i v c h1 h2=>?_
    simp only[List.getElem?_toArray,List.getElem?_map,Option.map_eq_some_iff]at h1
    obtain⟨j,hj,rfl⟩:=h1
    have:j=i∧i<P.cellsOf t:=by
     rw[List.getElem?_eq_some_iff]at hj
     obtain⟨hi,he⟩:=hj
     simp at he hi
     exact⟨he.symm,hi⟩
    obtain⟨rfl,hi⟩:=this
    exact(hf j hi).2 c (by rw[List.getElem?_take]at h2;split at h2<;>simp_all)
  ·cases h
section
variable {P:Program}{w:World}{pu:Nat→Prop}{ow:Nat→Ow}
theorem qkx(a b:ByteArray):(a.toList==b.toList)=decide (a=b):=by
 rw[←beq_toListBytes]
 by_cases h:a=b
 ·subst h
  simp[beq_toListBytes]
 ·rw[decide_eq_false h]
  rw[beq_toListBytes,beq_eq_false_iff_ne]
  intro h'
  rw[ByteArray.toList_eq,ByteArray.toList_eq]at h'
  apply h
  obtain⟨⟨x⟩⟩:=a
  obtain⟨⟨y⟩⟩:=b
  simpa using h'
theorem qmz(a b:ByteArray):(a==b)=decide (a=b):=by rw[beq_toListBytes,qkx]
theorem qvL(a b:Int):(a==b)=decide (a=b):=rfl
theorem qB0{o:BinOp}{t:TypeId}{k:IntKind}{a b:Int}{d:D}(hs:o≠ .shl∧o≠ .shr)(h:qvI o k a b=some d):
  ∃v,(binOp o t (.int k a) (.int k b)).run P w=.ok v w∧Rep w pu ow v d:=by
 cases o<;>simp only[qvI,reduceCtorEq]at h
 all_goals first
  |(injection h with h;subst h;exact⟨_,by simp[binOp,Op.intArith,Op.intBits,Op.intCmp],.pure _ _ (.int _ _)⟩)
  |(injection h with h;subst h;exact⟨_,by simp[binOp,Op.intCmp,qvL,bne],.pure _ _ (.bool _)⟩)
  |(split at h
    ·cases h
    ·rename_i hb;injection h with h;subst h;exact⟨_,by simp[binOp,Op.intDiv,hb],.pure _ _ (.int _ _)⟩)
theorem qcQ:∀(ks:List Kd) (x y:List D) (z:Bool),qcA ks x y=some z→x.length=ks.length∧y.length=ks.length
 |[],[],[],_,_=>⟨rfl,rfl⟩
 |.i::ks,.int k a::x,.int k' b::y,z,h=>by
  simp only[qcA]at h
  split at h
  ·obtain⟨z',hz,_⟩:=Option.map_eq_some_iff.1 h
   have:=qcQ ks x y z' hz
   simp[this.1,this.2]
  ·cases h
 |.s::ks,.str a::x,.str b::y,z,h=>by
  simp only[qcA]at h
  obtain⟨z',hz,_⟩:=Option.map_eq_some_iff.1 h
  have:=qcQ ks x y z' hz
  simp[this.1,this.2]
 |.b::ks,.bool a::x,.bool b::y,z,h=>by
  simp only[qcA]at h
  obtain⟨z',hz,_⟩:=Option.map_eq_some_iff.1 h
  have:=qcQ ks x y z' hz
  simp[this.1,this.2]
theorem qqH{d:Nat}:∀(fs:List Field) (i:Nat) (ks:List Kd) (xs ys:Array Value) (as bs:List D) (z:Bool),eqFields P i fs=some ks→
  (∀(j:Nat) v c,xs[i+j]? =some v→as[j]? =some c→Rep w pu ow v c)→(∀(j:Nat) v c,ys[i+j]? =some v→bs[j]? =some c→Rep w pu ow v c)→
  i+fs.length≤xs.size→i+fs.length≤ys.size→qcA ks as bs=some z→(Op.eqFields (d+1) xs ys fs).run P w=.ok z w:=by
 intro fs
 induction fs with
 |nil=>
  intro i ks xs ys as bs z hk _ _ _ _ h
  simp only[eqFields,Option.some.injEq]at hk
  subst hk
  match as,bs,h with
  |[],[],h=>
   simp only[qcA,Option.some.injEq]at h
   subst h
   simp[Op.eqFields]
 |cons f fs ih=>
  intro i ks0 xs ys as0 bs0 z he hx hy hsx hsy h
  simp only[eqFields]at he
  split at he
  ·rename_i hno
   simp only[Bool.and_eq_true,bne_iff_ne,ne_eq,beq_iff_eq]at hno
   obtain⟨hn,ho⟩:=hno
   obtain⟨kd,hkd,he⟩:=Option.bind_eq_some_iff.1 he
   obtain⟨ks,hks,rfl⟩:=Option.map_eq_some_iff.1 he
   simp only[List.length_cons]at hsx hsy
   match as0,bs0,qcQ _ _ _ _ h with
   |a::as,b::bs,hlen=>
    have hx0:=hx 0 (xs[i]'(by omega)) a (by simp) rfl
    have hy0:=hy 0 (ys[i]'(by omega)) b (by simp) rfl
    have ih':∀z',qcA ks as bs=some z'→(Op.eqFields (d+1) xs ys fs).run P w=.ok z' w:=fun z' hz=>
     ih (i+1) ks xs ys as bs z' hks (fun j v c h1 h2=>hx (j+1) v c (by rw[←h1];congr 1;omega) h2)
      (fun j v c h1 h2=>hy (j+1) v c (by rw[←h1];congr 1;omega) h2) (by omega) (by omega) hz
    have hagg:(isAgg f.type).run P w=.ok false w:=by
     unfold qvH at hkd
     unfold isAgg
     split at hkd<;>first|(rename_i hu;rw[Sem.run_bind,run_underlying hu];rfl)|cases hkd
    have hpx:(part f.type xs f.offset).run P w=.ok (xs[i]'(by omega)) w:=by
     rw[ho]
     unfold part
     rw[Sem.run_bind,hagg]
     simp[Array.getElem?_eq_getElem (show i<xs.size by omega)]
    have hpy:(part f.type ys f.offset).run P w=.ok (ys[i]'(by omega)) w:=by
     rw[ho]
     unfold part
     rw[Sem.run_bind,hagg]
     simp[Array.getElem?_eq_getElem (show i<ys.size by omega)]
    have key:∀r,(Op.equalIn (d+1) f.type (xs[i]'(by omega)) (ys[i]'(by omega))).run P w=.ok r w→∀z',qcA ks as bs=some z'→(r&&z')=z→(Op.eqFields (d+1) xs ys (f::fs)).run P w=.ok z w:=by
     intro r hr z' hz' hzz
     rw[Op.eqFields,if_pos hn]
     simp only[Sem.run_bind,hpx,hpy,hr,Result.andThen_ok,Sem.run_ite,ih' z' hz']
     cases r<;>simp_all
    generalize xs[i]'(by omega)=vx at*
    generalize ys[i]'(by omega)=vy at*
    cases kd<;>cases a<;>cases b<;>simp only[qcA,reduceCtorEq]at h
    case i.int.int k a k' b=>
     split at h
     ·rename_i hk
      subst hk
      obtain⟨z',hz,hzz⟩:=Option.map_eq_some_iff.1 h
      refine key _ ?_ z' hz hzz
      unfold qvH at hkd
      split at hkd<;>try cases hkd
      rename_i hu
      rw[hx0.int_inv,hy0.int_inv,Op.equalIn,Sem.run_bind,run_underlying hu]
      simp[qvL]
     ·cases h
    case s.str.str a b=>
     obtain⟨z',hz,hzz⟩:=Option.map_eq_some_iff.1 h
     refine key _ ?_ z' hz hzz
     unfold qvH at hkd
     split at hkd<;>try cases hkd
     rename_i hu
     rw[hx0.str_inv,hy0.str_inv,Op.equalIn,Sem.run_bind,run_underlying hu]
     simp[qmz]
    case b.bool.bool a b=>
     obtain⟨z',hz,hzz⟩:=Option.map_eq_some_iff.1 h
     refine key _ ?_ z' hz hzz
     unfold qvH at hkd
     split at hkd<;>try cases hkd
     rename_i hu
     rw[hx0.bool_inv,hy0.bool_inv,Op.equalIn,Sem.run_bind,run_underlying hu]
     cases a<;>cases b<;>rfl
  ·cases he
end
section
variable {P:Program}{w:World}{pu:Nat→Prop}{ow:Nat→Ow}
theorem qdh{o:BinOp}{t:TypeId}{x y:Operand}{a b:Value}(h1:∀c,a≠ .agg c)(h2:a≠ .nilIface):(eqGuard o t x y a b).run P w=.ok () w:=by
 cases a with
 |agg c=>exact(h1 c rfl).elim
 |nilIface=>exact(h2 rfl).elim
 |_=>cases o<;>rfl
theorem qky{o:BinOp}{t:TypeId}{x y:Operand}{a b:Array Value}(h:P.eqGuardType P.depth t=false):(eqGuard o t x y (.agg a) (.agg b)).run P w=.ok () w:=by
 cases o<;>first|rfl|simp[eqGuard,h]
theorem qhT{t:TypeId}{va vb:Array Value}{as bs:List D}{ks:List Kd}{z:Bool}(hk:qEf P t=some ks)(hz:qcA ks as bs=some z)
  (hx:va.size=as.length) (hx':∀(j:Nat) v c,va[j]? =some v→as[j]? =some c→Rep w pu ow v c)
  (hy:vb.size=bs.length) (hy':∀(j:Nat) v c,vb[j]? =some v→bs[j]? =some c→Rep w pu ow v c):
  (Op.equal t (.agg va) (.agg vb)).run P w=.ok z w∧P.eqGuardType P.depth t=false:=by
 unfold qEf at hk
 split at hk
 ·rename_i fields hu
  split at hk
  ·rename_i hg
   simp only[Bool.and_eq_true,Bool.not_eq_true']at hg
   refine⟨?_,hg.2⟩
   have hlen:∀(fs:List Field) (i:Nat) (ks:List Kd),eqFields P i fs=some ks→fs.length=ks.length:=by
    intro fs
    induction fs with
    |nil=>intro i ks h;simp only[eqFields,Option.some.injEq]at h;subst h;rfl
    |cons f fs ih=>
     intro i ks h
     simp only[eqFields]at h
     split at h
     ·obtain⟨kd,_,h⟩:=Option.bind_eq_some_iff.1 h
      obtain⟨ks',h',rfl⟩:=Option.map_eq_some_iff.1 h
      simp[ih _ _ h']
     ·cases h
   have hl:=hlen _ _ _ hk
   have hc:=qcQ _ _ _ _ hz
   have hfo:P.fieldsOf t=fields:=by simp[Program.fieldsOf,hu]
   rw[Op.equal,show Op.maxDepth=(9998+1)+1 from rfl,run_equalIn_struct w (9998+1) t va vb (by rw[hfo];exact hu) hg.1,hfo]
   exact qqH _ 0 ks va vb as bs z hk (fun j v c h1 h2=>hx' j v c (by simpa using h1) h2) (fun j v c h1 h2=>hy' j v c (by simpa using h1) h2) (by omega) (by omega) hz
  ·cases hk
 ·cases hk
theorem qg7{t:TypeId}{a b:Bool}(hu:P.underlying t=some .bool):(Op.equal t (.bool a) (.bool b)).run P w=.ok (a==b) w:=by
 rw[Op.equal,show Op.maxDepth=9999+1 from rfl,Op.equalIn,Sem.run_bind,run_underlying hu]
 rfl
theorem qB1{o:BinOp}{t:TypeId}{x y:Operand}{a b:Value}{c e d:D}(ha:Rep w pu ow a c)(hb:Rep w pu ow b e)(h:qoG P o t c e=some d):
  ∃v,(do eqGuard o t x y a b;binOp o t a b:Sem Value).run P w=.ok v w∧Rep w pu ow v d:=by
 unfold qoG at h
 split at h
 ·rename_i k a k' b
  rw[ha.int_inv,hb.int_inv,Sem.run_bind,qdh (by simp) (by simp),Result.andThen_ok]
  split at h
  ·split at h
   ·rename_i hb
    injection h with h;subst h
    exact⟨_,by simp[binOp,Op.shift,Int.not_lt.2 hb],.pure _ _ (.int _ _)⟩
   ·cases h
  ·split at h
   ·rename_i hb
    injection h with h;subst h
    exact⟨_,by simp[binOp,Op.shift,Int.not_lt.2 hb],.pure _ _ (.int _ _)⟩
   ·cases h
  ·rename_i o' h1 h2
   split at h
   ·rename_i hk;subst hk
    exact qB0 ⟨h1,h2⟩ h
   ·cases h
 ·rename_i a b
  rw[ha.str_inv,hb.str_inv,Sem.run_bind,qdh (by simp) (by simp),Result.andThen_ok]
  split at h
  ·injection h with h;subst h
   exact⟨_,by simp[binOp,Op.stringOp,qkx],.pure _ _ (.bool _)⟩
  ·injection h with h;subst h
   exact⟨_,by simp[binOp,Op.stringOp,qkx],.pure _ _ (.bool _)⟩
  ·cases h
 ·rename_i a b
  rw[ha.bool_inv,hb.bool_inv,Sem.run_bind,qdh (by simp) (by simp),Result.andThen_ok]
  split at h
  ·rename_i hu
   injection h with h;subst h
   exact⟨_,by simp only[binOp,Sem.run_bind,qg7 hu,Result.andThen_ok,Sem.run_pure],.pure _ _ (.bool _)⟩
  ·rename_i hu
   injection h with h;subst h
   exact⟨_,by simp only[binOp,Sem.run_bind,qg7 hu,Result.andThen_ok,Sem.run_pure],.pure _ _ (.bool _)⟩
  ·cases h
 ·rename_i as bs
  obtain⟨va,rfl,hx,hx'⟩:=ha.agg_inv
  obtain⟨vb,rfl,hy,hy'⟩:=hb.agg_inv
  split at h
  ·obtain⟨ks,hk,h⟩:=Option.bind_eq_some_iff.1 h
   obtain⟨z,hz,rfl⟩:=Option.map_eq_some_iff.1 h
   obtain⟨h1,h2⟩:=qhT hk hz hx hx' hy hy'
   rw[Sem.run_bind,qky h2,Result.andThen_ok]
   exact⟨_,by simp[binOp,h1],.pure _ _ (.bool _)⟩
  ·obtain⟨ks,hk,h⟩:=Option.bind_eq_some_iff.1 h
   obtain⟨z,hz,rfl⟩:=Option.map_eq_some_iff.1 h
   obtain⟨h1,h2⟩:=qhT hk hz hx hx' hy hy'
   rw[Sem.run_bind,qky h2,Result.andThen_ok]
   exact⟨_,by simp[binOp,h1],.pure _ _ (.bool _)⟩
  ·cases h
 ·cases h
theorem qEg{o:UnOp}{a:Value}{c d:D}(ha:Rep w pu ow a c)(h:unD o c=some d):∃v,(Op.unary o a).run P w=.ok v w∧Rep w pu ow v d:=by
 unfold unD at h
 split at h
 ·injection h with h;subst h
  rw[ha.int_inv]
  exact⟨_,by simp[Op.unary,Op.intArith],.pure _ _ (.int _ _)⟩
 ·injection h with h;subst h
  rw[ha.bool_inv]
  exact⟨_,by simp[Op.unary],.pure _ _ (.bool _)⟩
 ·cases h
theorem qy8{s t:TypeId}{a:Value}{c d:D}(ha:Rep w pu ow a c)(h:qnu P t s c=some d):∃v,(convert s t a).run P w=.ok v w∧Rep w pu ow v d:=by
 unfold qnu at h
 split at h
 ·rename_i k k' n hu
  split at h
  ·rename_i hs
   obtain⟨sd,hs⟩:=Option.isSome_iff_exists.1 hs
   injection h with h;subst h
   rw[ha.int_inv]
   exact⟨_,by simp[convert,run_underlying hu,run_underlying hs,Conv.intToInt],.pure _ _ (.int _ _)⟩
  ·cases h
 ·rename_i k k' n hu
  split at h
  ·rename_i hs
   obtain⟨sd,hs⟩:=Option.isSome_iff_exists.1 hs
   injection h with h;subst h
   rw[ha.int_inv]
   exact⟨_,by simp[convert,run_underlying hu,run_underlying hs,Conv.intToFloat],.pure _ _ (.float _ _)⟩
  ·cases h
 ·rename_i k s b hu
  split at h
  ·rename_i n hs hn
   obtain⟨sd,hs⟩:=Option.isSome_iff_exists.1 hs
   split at h
   ·rename_i hr
    injection h with h;subst h
    have hv:a=.float s b:=by
     cases ha with
     |pure _ _ ha=>cases ha;rfl
    rw[hv]
    exact⟨_,by simp[convert,run_underlying hu,run_underlying hs,Conv.floatToInt,hn,hr],.pure _ _ (.int _ _)⟩
   ·cases h
  ·cases h
 ·cases h
theorem qjy{b off:Nat}{f:Nat→Value}{cs:List D}(hm:∀j,j<cs.length→w.cell? ⟨b,off+j,none⟩=some (f j))(h:∀(j:Nat) (d:D),cs[j]? =some d→RepP w pu (f j) d):
  ∀(j:Nat) (c:D),cs[j]? =some c→∃v,w.cell? ⟨b,off+j,none⟩=some v∧Rep w pu ow v c:=fun j c hj=>
 ⟨f j,hm j (List.getElem?_eq_some_iff.1 hj).1,.pure _ _ (h j c hj)⟩
theorem qdA{rows:List (List D)}{i j:Nat}{d:D}(h:(qb6 rows i)[j]? =some d):qau rows i j=some d:=by
 unfold qb6 at h
 unfold qau
 cases hr:rows[i]? with
 |none=>rw[List.getD_eq_getElem?_getD,hr]at h;simp at h
 |some r=>rw[List.getD_eq_getElem?_getD,hr]at h;simpa using h
theorem qb5.cell{g o k sz:Nat}{blk:Blk}(h:qb5 w pu ow (.lies g o k sz) blk){i j:Nat}{d:D}(hd:qau blk.rows i j=some d):
  ∃v,w.cell? ⟨g,o+i*k+j,none⟩=some v∧Rep w pu ow v d:=by
 obtain⟨_,_,_,_,_,c,t,hc,_,hcell⟩:=h
 obtain⟨v,h1,h2⟩:=hcell i j d hd
 exact⟨v,by simp[World.cell?,hc,h1],h2⟩
theorem qy9{base:Nat}{hp:Nat→Option Blk}(hm:Mem base w pu ow hp){t:TypeId}{a:Value}{c d:D}(ha:Rep w pu ow a c)(h:qhS P hp t c=some d):
  ∃v,(Instr.loadAt t a).run P w=.ok v w∧Rep w pu ow v d:=by
 unfold qhS at h
 split at h
 ·obtain⟨b,off,f,rfl,_,hm',hf⟩:=ha.ptr_inv
  obtain⟨v,h1,h2⟩:=qdP (qjy hm' hf) h
  exact⟨v,by simp[Instr.loadAt,Instr.sureAddr,h1],h2⟩
 ·rename_i b row off
  obtain⟨blk,hb,h⟩:=Option.bind_eq_some_iff.1 h
  have hblk:=hm.blk b blk hb
  have hd:ow b≠ .dead:=fun hd=>by rw[hd]at hblk;exact hblk.2
  obtain⟨g,o,k,sz,hat,rfl⟩:=ha.op_inv hd
  rw[hat]at hblk
  obtain⟨v,h1,h2⟩:=qdP (P:=P) (w:=w) (pu:=pu) (ow:=ow) (b:=g) (off:=o+row*k+off) (cs:=(qb6 blk.rows row).drop off) (fun j c hj=>by
   rw[List.getElem?_drop]at hj
   obtain⟨v,h1,h2⟩:=hblk.cell (qdA hj)
   exact⟨v,by rw[←h1];congr 2;omega,h2⟩) h
  exact⟨v,by simp[Instr.loadAt,Instr.sureAddr,h1],h2⟩
 ·cases h
end
section
variable {P:Program}{w:World}{pu:Nat→Prop}{ow:Nat→Ow}{base:Nat}{hp:Nat→Option Blk}
theorem Mem.live(hm:Mem base w pu ow hp){b:Nat}{blk:Blk}(hb:hp b=some blk):ow b≠ .dead:=fun hd=>by
 have:=hm.blk b blk hb
 rw[hd]at this
 exact this.2
theorem qg8{b off:Nat}{f:Field}(h:0<P.cellsOf f.type):(fieldPlace ⟨b,off,none⟩ f).run P w=.ok ⟨b,off+f.offset,none⟩ w:=by
 unfold fieldPlace
 rw[Sem.run_bind,qbc h,Result.andThen_ok,if_neg (by omega),Addr.add_spotless]
 rfl
theorem qrP{b off n:Nat}{f:Nat→Value}{cs:List D}(hb:pu b)(hm:∀j,j<cs.length→w.cell? ⟨b,off+j,none⟩=some (f j))(h:∀(j:Nat) (d:D),cs[j]? =some d→RepP w pu (f j) d):
  RepP w pu (.pointer (some ⟨b,off+n,none⟩)) (.ptr (cs.drop n)):=by
 refine .ptr b (off+n) _ (fun j=>f (n+j)) hb (fun j hj=>?_) (fun j d hj=>?_)
 ·rw[←hm (n+j) (by rw[List.length_drop]at hj;omega)]
  congr 2;omega
 ·rw[List.getElem?_drop]at hj
  exact h _ d hj
theorem qnv(hm:Mem base w pu ow hp){s:TypeId}{f:Nat}{a:Value}{c d:D}(ha:Rep w pu ow a c)(h:qdz P hp s c f=some d):
  ∃v,(Instr.fieldAt s a f).run P w=.ok v w∧Rep w pu ow v d:=by
 unfold qdz at h
 split at h
 ·rename_i o t cs hf
  split at h
  ·cases h
  ·rename_i hc
   injection h with h;subst h
   obtain⟨b,off,fv,rfl,hb,hm',hfv⟩:=ha.ptr_inv
   unfold qmx at hf
   split at hf
   ·rename_i fields hu
    obtain⟨x,hx,hxe⟩:=Option.map_eq_some_iff.1 hf
    injection hxe with h1 h2;subst h1 h2
    refine⟨_,?_,.pure _ _ (qrP hb hm' hfv)⟩
    simp[Instr.fieldAt,run_underlying hu,hx,Instr.sureAddr,qg8 (P:=P) (Nat.pos_of_ne_zero hc)]
   ·cases hf
 ·rename_i o t b row off hf
  split at h
  ·cases h
  ·rename_i hc
   rw[not_or]at hc
   injection h with h;subst h
   obtain⟨blk,hblk⟩:∃blk,hp b=some blk:=by
    cases hh:hp b with
    |none=>rw[hh]at hc;simp at hc
    |some blk=>exact⟨blk,rfl⟩
   obtain⟨g,o',k,sz,hat,rfl⟩:=ha.op_inv (hm.live hblk)
   unfold qmx at hf
   split at hf
   ·rename_i fields hu
    obtain⟨x,hx,hxe⟩:=Option.map_eq_some_iff.1 hf
    injection hxe with h1 h2;subst h1 h2
    refine⟨_,?_,.opa b row (off+x.offset) g o' k sz hat⟩
    simp[Instr.fieldAt,run_underlying hu,hx,Instr.sureAddr,qg8 (P:=P) (Nat.pos_of_ne_zero hc.1),Nat.add_assoc]
   ·cases hf
 ·cases h
theorem qrQ{t:TypeId}{vs:Array Value}{cs:List D}{off:Nat}{d:D}(hl:vs.size=cs.length)(hv:∀(i:Nat) (v:Value) (d:D),vs[i]? =some v→cs[i]? =some d→Rep w pu ow v d)
  (h:qa5 (sh P t) (cs.drop off)=some d):∃v,(part t vs off).run P w=.ok v w∧Rep w pu ow v d:=by
 unfold part
 rw[Sem.run_bind]
 cases hs:sh P t with
 |bad=>rw[hs]at h;simp[qa5]at h
 |one=>
  rw[qeT w (by rw[hs];simp),hs]
  rw[hs]at h
  simp only[qa5,List.head?_drop]at h
  have hlt:off<cs.length:=(List.getElem?_eq_some_iff.1 h).1
  have hv0:vs[off]? =some (vs[off]'(by omega)):=Array.getElem?_eq_getElem (by omega)
  exact⟨_,by simp[hv0],hv off _ d hv0 h⟩
 |many n=>
  rw[qeT w (by rw[hs];simp),hs]
  rw[hs]at h
  simp only[qa5]at h
  split at h
  ·rename_i hle
   rw[List.length_drop]at hle
   injection h with h;subst h
   obtain⟨rfl,hpos⟩:=qvK hs
   refine⟨.agg (vs.extract off (off+P.cellsOf t)),by simp[qbc hpos],.agg _ _ ?_ fun i v c h1 h2=>?_⟩
   ·simp only[Array.size_extract,List.length_take,List.length_drop]
    omega
   ·rw[List.getElem?_take]at h2
    split at h2
    ·rename_i hi
     rw[List.getElem?_drop]at h2
     refine hv (off+i) v c ?_ h2
     rw[Array.getElem?_extract]at h1
     split at h1
     ·exact h1
     ·cases h1
    ·cases h2
  ·cases h
theorem qvM{s:TypeId}{f:Nat}{a:Value}{c d:D}(ha:Rep w pu ow a c)(h:qoK P s c f=some d):
  ∃v,(Instr.field s a f).run P w=.ok v w∧Rep w pu ow v d:=by
 unfold qoK at h
 split at h
 ·rename_i o t cs hf
  obtain⟨vs,rfl,hl,hv⟩:=ha.agg_inv
  unfold qmx at hf
  split at hf
  ·rename_i fields hu
   obtain⟨x,hx,hxe⟩:=Option.map_eq_some_iff.1 hf
   injection hxe with h1 h2;subst h1 h2
   obtain⟨v,h1,h2⟩:=qrQ hl hv h
   exact⟨v,by simp[Instr.field,run_underlying hu,hx,asAgg,h1],h2⟩
  ·cases hf
 ·cases h
theorem qfh{rows:List (List D)}{i:Nat}(h:i<rows.length):qb6 rows i∈rows:=by
 unfold qb6
 rw[List.getD_eq_getElem?_getD,List.getElem?_eq_getElem h]
 exact List.getElem_mem h
theorem qnw(hm:Mem base w pu ow hp){t:TypeId}{a i:Value}{c e d:D}(ha:Rep w pu ow a c)(hi:Rep w pu ow i e)(h:qdc P hp t c e=some d):
  ∃v,(Instr.indexAt t a i).run P w=.ok v w∧Rep w pu ow v d:=by
 unfold qdc at h
 split at h
 ·rename_i el rows k n hu
  split at h
  ·rename_i hc
   obtain⟨h0,hn,hk,hpos⟩:=hc
   injection h with h;subst h
   obtain⟨ad,cap,k',f,rfl,hcap,hk',hmm,hf⟩:=ha.sl_inv
   rw[hi.int_inv]
   have hlt:n.toNat<rows.length:=by omega
   obtain⟨b,off,rfl,hb,hcell⟩:=hmm (by intro he;rw[he]at hlt;simp at hlt)
   have hkk:k'=P.cellsOf el:=by rw[←hk,hk' _ (qfh hlt)]
   subst hkk
   refine⟨.pointer (some ⟨b,off+n.toNat*P.cellsOf el,none⟩),?_,.pure _ _ (.ptr _ _ _ (fun j=>f n.toNat j) hb (fun j hj=>hcell _ _ hlt (by omega)) (fun j d hj=>hf _ _ d (qdA hj)))⟩
   simp[Instr.indexAt,asIntOf,run_underlying hu,h0,hn,qbc hpos,Addr.add_spotless]
  ·cases h
 ·rename_i el b off len k n hu
  split at h
  ·rename_i blk hblk
   split at h
   ·rename_i hc
    obtain⟨h0,hn,hl,hk,hpos⟩:=hc
    injection h with h;subst h
    obtain⟨ad,cap,rfl,hcase⟩:=ha.os_inv (hm.live hblk)
    rw[hi.int_inv]
    rcases hcase with⟨_,rfl,_⟩|⟨g,o,k',sz,hat,hlc,hmm⟩
    ·omega
    ·obtain⟨rfl,hsz⟩:=hmm (by omega)
     have hbk:=hm.blk b blk hblk
     rw[hat]at hbk
     have hkk:k'=P.cellsOf el:=by rw[←hbk.2.1,hk]
     subst hkk
     refine⟨.pointer (some ⟨g,o+(off+n.toNat)*P.cellsOf el+0,none⟩),?_,.opa b _ 0 g o _ sz hat⟩
     simp[Instr.indexAt,asIntOf,run_underlying hu,h0,hn,qbc hpos,Addr.add_spotless,Nat.add_mul,Nat.add_assoc]
   ·cases h
  ·cases h
 ·rename_i len el cs k n hu
  split at h
  ·rename_i hc
   obtain⟨h0,hn,hpos⟩:=hc
   injection h with h;subst h
   obtain⟨b,off,f,rfl,hb,hmm,hf⟩:=ha.ptr_inv
   rw[hi.int_inv]
   refine⟨_,?_,.pure _ _ (qrP (n:=n.toNat*P.cellsOf el) hb hmm hf)⟩
   simp[Instr.indexAt,asIntOf,run_underlying hu,h0,hn,qbc hpos,Addr.add_spotless,Instr.sureAddr]
  ·cases h
 ·rename_i len el b row off k n hu
  split at h
  ·rename_i blk hblk
   split at h
   ·rename_i hc
    obtain⟨h0,hn,hpos⟩:=hc
    injection h with h;subst h
    obtain⟨g,o,k',sz,hat,rfl⟩:=ha.op_inv (hm.live hblk)
    rw[hi.int_inv]
    refine⟨.pointer (some ⟨g,o+row*k'+(off+n.toNat*P.cellsOf el),none⟩),?_,.opa b row _ g o k' sz hat⟩
    simp[Instr.indexAt,asIntOf,run_underlying hu,h0,hn,qbc hpos,Addr.add_spotless,Instr.sureAddr,Nat.add_assoc]
   ·cases h
  ·cases h
 ·cases h
theorem qvN{t:TypeId}{a i:Value}{c e d:D}(ha:Rep w pu ow a c)(hi:Rep w pu ow i e)(h:qmy P t c e=some d):
  ∃v,(Instr.index t a i).run P w=.ok v w∧Rep w pu ow v d:=by
 unfold qmy at h
 split at h
 ·rename_i s k n hu
  split at h
  ·rename_i hc
   injection h with h;subst h
   rw[ha.str_inv,hi.int_inv]
   refine⟨_,?_,.pure _ _ (.int _ _)⟩
   have hlt:n.toNat<s.size:=by omega
   simp[Instr.index,asIntOf,run_underlying hu,hc.1,qdu,hlt]
  ·cases h
 ·rename_i len el cs k n hu
  split at h
  ·rename_i hc
   obtain⟨vs,rfl,hl,hv⟩:=ha.agg_inv
   rw[hi.int_inv]
   obtain⟨v,h1,h2⟩:=qrQ hl hv h
   exact⟨v,by simp[Instr.index,asIntOf,run_underlying hu,hc.1,hc.2.1,qbc hc.2.2,h1],h2⟩
  ·cases h
 ·cases h
theorem qB2(hm:Mem base w pu ow hp){t ty:TypeId}{a:Value}{c d:D}(ha:Rep w pu ow a c)(h:qA0 P hp t c=some d):
  ∃v,(Builtin.len_ #[t] ty #[a]).run P w=.ok v w∧Rep w pu ow v d:=by
 unfold qA0 at h
 split at h
 ·rename_i s hu
  injection h with h;subst h
  rw[ha.str_inv]
  exact⟨_,by simp[Builtin.len_,run_underlying hu,goInt],.pure _ _ (.int _ _)⟩
 ·rename_i n el hu
  injection h with h;subst h
  exact⟨_,by simp[Builtin.len_,run_underlying hu,goInt],.pure _ _ (.int _ _)⟩
 ·rename_i el rows hu
  injection h with h;subst h
  obtain⟨ad,cap,k',f,rfl,hcap,hk',hmm,hf⟩:=ha.sl_inv
  exact⟨_,by simp[Builtin.len_,run_underlying hu,goInt],.pure _ _ (.int _ _)⟩
 ·rename_i el b off len hu
  obtain⟨blk,hblk,rfl⟩:=Option.map_eq_some_iff.1 h
  obtain⟨ad,cap,rfl,hcase⟩:=ha.os_inv (hm.live hblk)
  exact⟨_,by simp[Builtin.len_,run_underlying hu,goInt],.pure _ _ (.int _ _)⟩
 ·rename_i el hu
  injection h with h;subst h
  rw[ha.nilsl_inv]
  exact⟨_,by simp[Builtin.len_,run_underlying hu,goInt],.pure _ _ (.int _ _)⟩
 ·cases h
theorem qhU{v:Value}{d:D}{dflt y l:Nat}{code:BoundsCode}(h:Rep w pu ow v d)(hl:qd9 (some d) dflt=some l)(hy:l≤y):
  (Instr.sliceBound v y code).run P w=.ok l w:=by
 unfold qd9 at hl
 split at hl
 ·rename_i he;cases he
 ·rename_i k n he
  injection he with he;subst he
  have:=h.int_inv
  subst this
  split at hl
  ·injection hl with hl;subst hl
   have h1:n≤y:=by omega
   simp[Instr.sliceBound,asIntOf, *]
  ·cases hl
 ·cases hl
theorem qev{b:Bool}{len cap l h:Nat}{lo hi:Option Operand}{ρv:Operand→Value}{ρ:Operand→D}(hρ:∀x,Rep w pu ow (ρv x) (ρ x))
  (hl:qd9 (lo.map ρ) 0=some l) (hh:qd9 (hi.map ρ) len=some h) (h1:l≤h) (h2:h≤len) (h3:len≤cap):
  (Instr.sliceBounds b len cap (lo.map ρv) (hi.map ρv) none).run P w=.ok (l,h,cap) w:=by
 cases hi with
 |none=>
  simp only[Option.map_none,qd9,Option.some.injEq]at hh
  subst hh
  cases lo with
  |none=>
   simp only[Option.map_none,qd9,Option.some.injEq]at hl
   subst hl
   simp[Instr.sliceBounds]
  |some x=>
   have:=qhU (P:=P) (code:=.sliceB) (hρ x) hl h1
   simp[Instr.sliceBounds,this]
 |some y=>
  cases lo with
  |none=>
   simp only[Option.map_none,qd9,Option.some.injEq]at hl
   subst hl
   have:=qhU (P:=P) (code:=if b then .sliceAcap else .sliceAlen) (hρ y) hh (show h≤cap by omega)
   simp[Instr.sliceBounds,this]
  |some x=>
   have hx:=qhU (P:=P) (code:=.sliceB) (hρ x) hl h1
   have:=qhU (P:=P) (code:=if b then .sliceAcap else .sliceAlen) (hρ y) hh (show h≤cap by omega)
   simp[Instr.sliceBounds,this,hx]
theorem qiU{rows:List (List D)}{l h i:Nat}:((rows.take h).drop l)[i]? =if l+i<h then rows[l+i]? else none:=by
 rw[List.getElem?_drop,List.getElem?_take]
theorem qjU{rows:List (List D)}{l h i j:Nat}{d:D}(hd:qau ((rows.take h).drop l) i j=some d):qau rows (l+i) j=some d:=by
 unfold qau at*
 rw[qiU]at hd
 split at hd
 ·exact hd
 ·simp at hd
theorem qvO(hm:Mem base w pu ow hp){t:TypeId}{x:Value}{c d:D}{lo hi:Option Operand}{ρv:Operand→Value}{ρ:Operand→D}(hρ:∀x,Rep w pu ow (ρv x) (ρ x))
  (hx:Rep w pu ow x c) (h:qjx P hp t c (lo.map ρ) (hi.map ρ)=some d):
  ∃v,(Instr.sliceAt t x (lo.map ρv) (hi.map ρv) none).run P w=.ok v w∧Rep w pu ow v d:=by
 unfold qjx at h
 split at h
 ·rename_i s hu
  split at h
  ·rename_i l h' hl hh
   split at h
   ·rename_i hc
    injection h with h;subst h
    rw[hx.str_inv]
    exact⟨_,by simp[Instr.sliceAt,Instr.slice,run_underlying hu,qev (P:=P) hρ hl hh hc.1 hc.2 (Nat.le_refl _)],.pure _ _ (.str _)⟩
   ·cases h
  ·cases h
 ·rename_i el rows hu
  split at h
  ·rename_i l h' hl hh
   split at h
   ·rename_i hc
    obtain⟨h1,h2,hpos,hk⟩:=hc
    injection h with h;subst h
    obtain⟨ad,cap,k',f,rfl,hcap,hk',hmm,hf⟩:=hx.sl_inv
    refine⟨.slice (if cap=l then ad else ad.map (·.add (l*P.cellsOf el))) (h'-l) (cap-l),by simp[Instr.sliceAt,Instr.slice,run_underlying hu,qev (P:=P) hρ hl hh h1 h2 hcap,qbc hpos],.pure _ _ ?_⟩
    have hlen:((rows.take h').drop l).length=h'-l:=by simp;omega
    rw[←hlen]
    refine .sl _ (cap-l) _ (P.cellsOf el) (fun i j=>f (l+i) j) (by omega) (fun r hr=>hk r (List.mem_of_mem_take (List.mem_of_mem_drop hr))) (fun hne=>?_) (fun i j d hd=>hf _ _ d (qjU hd))
    have hlt:l<h':=by
     rcases Nat.lt_or_ge l h' with h|h
     ·exact h
     ·exfalso;apply hne;apply List.eq_nil_of_length_eq_zero;omega
    have hne':rows≠[]:=by rintro rfl;simp at h2;omega
    obtain⟨b,off,rfl,hb,hcell⟩:=hmm hne'
    refine⟨b,off+l*P.cellsOf el,by rw[if_neg (by omega)];simp[Addr.add_spotless],hb,fun i j hi hj=>?_⟩
    have hkk:k'=P.cellsOf el:=by
     obtain⟨r,hr⟩:=List.exists_mem_of_ne_nil _ hne'
     rw[←hk' r hr,hk r hr]
    rw[←hcell (l+i) j (by omega) (by omega),hkk,Nat.add_mul]
    congr 2;omega
   ·cases h
  ·cases h
 ·rename_i el b off len hu
  split at h
  ·rename_i blk l h' hblk hl hh
   split at h
   ·rename_i hc
    obtain⟨h1,h2,hpos,hk⟩:=hc
    injection h with h;subst h
    obtain⟨ad,cap,rfl,hcase⟩:=hx.os_inv (hm.live hblk)
    have hcap:len≤cap:=by
     rcases hcase with⟨_,rfl,rfl⟩|⟨_,_,_,_,_,h,_⟩
     ·exact Nat.le_refl _
     ·exact h
    refine⟨.slice (if cap=l then ad else ad.map (·.add (l*P.cellsOf el))) (h'-l) (cap-l),by simp[Instr.sliceAt,Instr.slice,run_underlying hu,qev (P:=P) hρ hl hh h1 h2 hcap,qbc hpos],?_⟩
    rcases hcase with⟨he,rfl,rfl⟩|⟨g,o,k',sz,hat,hlc,hmm⟩
    ·have:l=0:=by omega
     subst this
     have:h'=0:=by omega
     subst this
     exact .ose _ b _ he
    ·refine .osa _ (cap-l) b (off+l) (h'-l) g o k' sz hat (by omega) (fun hp'=>?_)
     obtain⟨rfl,hsz⟩:=hmm (by omega)
     have hbk:=hm.blk b blk hblk
     rw[hat]at hbk
     have hkk:k'=P.cellsOf el:=by rw[←hbk.2.1,hk]
     subst hkk
     refine⟨by rw[if_neg (by omega)];simp[Addr.add_spotless,Nat.add_mul,Nat.add_assoc],?_⟩
     rw[show off+l+(cap-l)=off+cap by omega]
     exact hsz
   ·cases h
  ·cases h
 ·cases h
theorem qrR:∀(xs:List Operand) (ρv:Operand→Value) (ρ:Operand→D) (a:Value) (c d:D),(∀x,Rep w pu ow (ρv x) (ρ x))→Rep w pu ow a c→qhl qtZ c (xs.map ρ)=some d→
  ∃v,((xs.map ρv).foldlM Builtin.min2 a).run P w=.ok v w∧Rep w pu ow v d
 |[],_,_,a,c,d,_,ha,h=>by
  simp only[List.map_nil,qhl,Option.some.injEq]at h
  subst h
  exact⟨a,rfl,ha⟩
 |x::xs,ρv,ρ,a,c,d,hρ,ha,h=>by
  simp only[List.map_cons,qhl]at h
  obtain⟨e,he,h⟩:=Option.bind_eq_some_iff.1 h
  unfold qtZ at he
  split at he
  ·rename_i k m k' n hx
   injection he with he;subst he
   have hx':=hρ x
   rw[hx]at hx'
   have h1:=hx'.int_inv
   have h2:=ha.int_inv
   obtain⟨v,h3,h4⟩:=qrR xs ρv ρ (.int k (if n<m then n else m)) _ d hρ (.pure _ _ (.int _ _)) h
   refine⟨v,?_,h4⟩
   rw[List.map_cons,List.foldlM_cons,h1,h2,Sem.run_bind]
   simpa[Builtin.min2]using h3
  ·cases he
theorem qrS:∀(xs:List Operand) (ρv:Operand→Value) (ρ:Operand→D) (a:Value) (c d:D),(∀x,Rep w pu ow (ρv x) (ρ x))→Rep w pu ow a c→qhl qt0 c (xs.map ρ)=some d→
  ∃v,((xs.map ρv).foldlM Builtin.max2 a).run P w=.ok v w∧Rep w pu ow v d
 |[],_,_,a,c,d,_,ha,h=>by
  simp only[List.map_nil,qhl,Option.some.injEq]at h
  subst h
  exact⟨a,rfl,ha⟩
 |x::xs,ρv,ρ,a,c,d,hρ,ha,h=>by
  simp only[List.map_cons,qhl]at h
  obtain⟨e,he,h⟩:=Option.bind_eq_some_iff.1 h
  unfold qt0 at he
  split at he
  ·rename_i k m k' n hx
   injection he with he;subst he
   have hx':=hρ x
   rw[hx]at hx'
   have h1:=hx'.int_inv
   have h2:=ha.int_inv
   obtain⟨v,h3,h4⟩:=qrS xs ρv ρ (.int k (if m<n then n else m)) _ d hρ (.pure _ _ (.int _ _)) h
   refine⟨v,?_,h4⟩
   rw[List.map_cons,List.foldlM_cons,h1,h2,Sem.run_bind]
   simpa[Builtin.max2]using h3
  ·cases he
end
section
variable {P:Program}{w:World}{pu:Nat→Prop}{ow:Nat→Ow}{base:Nat}{hp:Nat→Option Blk}
theorem qci{S:Sem Value}{v:Value}(h:S.run P w=.ok v w):(do pure (Next.value (←S)):Sem Next).run P w=.ok (.value v) w:=by
 simp[h]
theorem qgI{td:TypeDesc}{kv:Value}{k:D}(hk:qf9 k=some kv):∀(rows:List (List D)) (es:List MapEntry) (i:Nat) (r:Option D),qhj es rows→findR td k rows=some r→
  match r with
  |some v=>∃u j,qf9 v=some u∧Instr.findNow td kv es i=some (some (j,u))
  |none=>Instr.findNow td kv es i=some none
 |[],[],i,r,_,h=>by simp only[findR,Option.some.injEq]at h;subst h;rfl
 |[],e::es,i,r,hm,_=>by simp[qhj]at hm
 |row::rows,[],i,r,hm,_=>by simp[qhj]at hm
 |row::rows,e::es,i,r,hm,h=>by
  unfold qhj at hm
  simp only[List.map_cons,List.cons.injEq]at hm
  obtain⟨h1,h2⟩:=hm
  match row,h1 with
  |[kk,v],h1=>
   simp only[List.map_cons,List.map_nil,List.cons.injEq,and_true]at h1
   simp only[findR]at h
   have hsame:Instr.sameNow td kv e.key=qvJ td k kk:=by
    cases k<;>simp only[qf9,Option.some.injEq]at hk<;>(try(cases hk))<;>cases kk<;>simp only[qf9,Option.some.injEq]at h1<;>(try(cases h1.1))<;>subst_vars<;>(try(rw[←h1.1]))<;>cases td<;>simp_all [Instr.sameNow,qvJ]
   cases hq:qvJ td k kk with
   |none=>rw[hq]at h;cases h
   |some b=>
    rw[hq]at h
    cases b with
    |true=>
     simp only at h
     split at h
     ·rename_i hs
      injection h with h;subst h
      simp only[Instr.findNow,hsame,hq]
      exact⟨e.val,i,h1.2,rfl⟩
     ·cases h
    |false=>
     simp only[Instr.findNow,hsame,hq]
     exact qgI hk rows es (i+1) r h2 h
  |[],h1=>simp at h1
  |[_],h1=>simp at h1
  |_::_::_::_,h1=>simp at h1
theorem qoM{td:TypeDesc}{k:D}(h:qt1 td k=true):∃kv,qf9 k=some kv∧MapKept.IsKey td kv:=by
 cases td<;>cases k<;>simp_all [qt1,qf9,MapKept.IsKey]
theorem qkz{v:Value}{d:D}(h:Rep w pu ow v d){kv:Value}(hk:qf9 d=some kv):v=kv:=by
 cases d<;>simp only[qf9,Option.some.injEq]at hk<;>(try(cases hk))<;>first|(rw[h.int_inv];exact hk)|(rw[h.bool_inv];exact hk)|(rw[h.str_inv];exact hk)|(rw[h.int_inv])|(rw[h.bool_inv])|(rw[h.str_inv])
theorem qt2{d:D}{v:Value}(hk:qf9 d=some v):RepP w pu v d:=by
 cases d<;>simp only[qf9,Option.some.injEq]at hk<;>(try(cases hk))<;>(try(subst hk))<;>first|exact .int _ _|exact .bool _|exact .str _
theorem qt3(hm:Mem base w pu ow hp){t:TypeId}{mv kv:Value}{m k d:D}(hmv:Rep w pu ow mv m)(hkv:Rep w pu ow kv k)(h:qiT P hp t m k=some d):∃v,(Instr.lookup t mv kv false).run P w=.ok v w∧Rep w pu ow v d:=by
 unfold qiT at h
 split at h
 ·rename_i kt et b hu
  obtain⟨blk,hb,h⟩:=Option.bind_eq_some_iff.1 h
  obtain⟨td,htd,h⟩:=Option.bind_eq_some_iff.1 h
  split at h
  ·rename_i hok
   obtain⟨kv',hk',hkey⟩:=qoM hok
   have hkk:=qkz hkv hk'
   subst hkk
   obtain⟨g,hat,rfl⟩:=hmv.om_inv (hm.live hb)
   have hblk:=hm.blk b blk hb
   rw[hat]at hblk
   obtain⟨_,_,es,clock,hg,hrows⟩:=hblk
   have hget:=MapKept.run_getObj_map (P:=P) hg
   have hchk:=MapKept.run_checkKey (P:=P) (w:=w) htd hkey es.isEmpty 9999
   split at h
   ·rename_i v hf
    injection h with h;subst h
    obtain⟨u,j,hu2,hfn⟩:=qgI hk' blk.rows es.toList 0 _ hrows hf
    have hfk:=MapKept.run_findKey (P:=P) (w:=w) htd hfn
    exact⟨u,by simp[Instr.lookup,run_underlying hu,hget,hchk,hfk,Result.andThen],.pure _ _ (qt2 hu2)⟩
   ·rename_i hf
    obtain⟨zv,hz,rfl⟩:=Option.map_eq_some_iff.1 h
    obtain⟨i,hi,hzz⟩:=Option.bind_eq_some_iff.1 hz
    have hfn:=qgI hk' blk.rows es.toList 0 _ hrows hf
    have hfk:=MapKept.run_findKey (P:=P) (w:=w) htd hfn
    exact⟨zv,by simp[Instr.lookup,run_underlying hu,hget,hchk,hfk,Result.andThen,zeroValue,typeInfo,hi,hzz],qhm w pu ow zv⟩
   ·cases h
  ·cases h
 ·cases h
theorem qA1(hm:Mem base w pu ow hp){ρv:Operand→Value}{ρ:Operand→D}(hρ:∀x,Rep w pu ow (ρv x) (ρ x)){o:Oper}{d:D}(h:op0 P ρ hp o.op=some d):
  ∃v,(execOp ρv o).run P w=.ok (.value v) w∧Rep w pu ow v d:=by
 obtain⟨dst,op,ty,pos,after,guard⟩:=o
 simp only at h
 unfold op0 at h
 split at h
 ·injection h with h;subst h;exact⟨_,rfl,hρ _⟩
 ·injection h with h;subst h;exact⟨_,rfl,hρ _⟩
 ·rename_i c a b
  unfold qBY at h
  split at h
  ·rename_i p hp'
   injection h with h;subst h
   have hc:=hρ c
   rw[hp']at hc
   have hc':=hc.bool_inv
   cases p
   ·exact⟨_,by simp[execOp,hc',asBool],hρ b⟩
   ·exact⟨_,by simp[execOp,hc',asBool],hρ a⟩
  ·cases h
 ·obtain⟨v,h1,h2⟩:=qy9 (P:=P) hm (hρ _) h
  exact⟨v,qci h1,h2⟩
 ·rename_i x
  have hc:=hρ x
  unfold qga at h
  simp only[execOp]
  generalize ρv x=vx at hc
  generalize ρ x=dx at hc h
  split at h
  ·rename_i cs
   injection h with h;subst h
   obtain⟨b,off,f,rfl,_⟩:=hc.ptr_inv
   exact⟨_,rfl,hc⟩
  ·rename_i b r o
   split at h
   ·rename_i hb
    obtain⟨blk,hb⟩:=Option.isSome_iff_exists.1 hb
    injection h with h;subst h
    obtain⟨g,o',k,sz,hat,rfl⟩:=hc.op_inv (hm.live hb)
    exact⟨_,rfl,hc⟩
   ·cases h
  ·rename_i f xs ys
   injection h with h;subst h
   obtain⟨xs',ys',rfl,_⟩:=hc.clo_inv
   exact⟨_,rfl,hc⟩
  ·cases h
 ·rename_i op t x y yt
  obtain⟨v,h1,h2⟩:=qB1 (P:=P) (x:=x) (y:=y) (hρ x) (hρ y) h
  exact⟨v,qci h1,h2⟩
 ·obtain⟨v,h1,h2⟩:=qEg (P:=P) (hρ _) h
  exact⟨v,qci h1,h2⟩
 ·obtain⟨v,h1,h2⟩:=qy8 (P:=P) (hρ _) h
  exact⟨v,qci h1,h2⟩
 ·rename_i fn xs ys
  injection h with h;subst h
  refine⟨.func fn (xs.map ρv) (ys.map ρv),by simp[execOp,Instr.makeFunc],.clo _ _ _ _ _ (by simp) (fun i v d h1 h2=>?_) (by simp) (fun i v d h1 h2=>?_)⟩
  ·simp only[Array.getElem?_map,List.getElem?_map,Array.getElem?_toList,Option.map_eq_some_iff]at h1 h2
   obtain⟨x,hx,rfl⟩:=h1
   obtain⟨x',hx',rfl⟩:=h2
   rw[hx]at hx';injection hx' with hx';subst hx'
   exact hρ x
  ·simp only[Array.getElem?_map,List.getElem?_map,Array.getElem?_toList,Option.map_eq_some_iff]at h1 h2
   obtain⟨x,hx,rfl⟩:=h1
   obtain⟨x',hx',rfl⟩:=h2
   rw[hx]at hx';injection hx' with hx';subst hx'
   exact hρ x
 ·obtain⟨v,h1,h2⟩:=qvO (P:=P) hm hρ (hρ _) h
  exact⟨v,qci h1,h2⟩
 ·obtain⟨v,h1,h2⟩:=qnv (P:=P) hm (hρ _) h
  exact⟨v,qci h1,h2⟩
 ·obtain⟨v,h1,h2⟩:=qvM (P:=P) (hρ _) h
  exact⟨v,qci h1,h2⟩
 ·obtain⟨v,h1,h2⟩:=qnw (P:=P) hm (hρ _) (hρ _) h
  exact⟨v,qci h1,h2⟩
 ·obtain⟨v,h1,h2⟩:=qvN (P:=P) (hρ _) (hρ _) h
  exact⟨v,qci h1,h2⟩
 ·rename_i t i
  have hc:=hρ t
  simp only[execOp]
  generalize ρv t=vx at hc
  generalize ρ t=dx at hc h
  unfold qj7 at h
  split at h
  ·rename_i ds
   obtain⟨vs,rfl,hl,hv⟩:=hc.tup_inv
   have hlt:i<ds.length:=(List.getElem?_eq_some_iff.1 h).1
   have h1:vs[i]? =some (vs[i]'(by omega)):=Array.getElem?_eq_getElem (by omega)
   exact⟨_,by simp[Instr.extract,h1],hv i _ d h1 h⟩
  ·cases h
 ·obtain⟨v,h1,h2⟩:=qt3 (P:=P) hm (hρ _) (hρ _) h
  exact⟨v,qci h1,h2⟩
 ·rename_i xs ts
  split at h
  ·rename_i x t hx ht
   obtain rfl:xs= #[x]:=by rw[←Array.toArray_toList (xs:=xs),hx]
   obtain rfl:ts= #[t]:=by rw[←Array.toArray_toList (xs:=ts),ht]
   obtain⟨v,h1,h2⟩:=qB2 (P:=P) (ty:=ty) hm (hρ x) h
   exact⟨v,by simp[execOp,resolve,invoke,builtin,h1],h2⟩
  ·cases h
 ·rename_i xs ts
  split at h
  ·rename_i x r hx
   obtain rfl:xs=(x::r).toArray:=by rw[←hx]
   obtain⟨v,h1,h2⟩:=qrR (P:=P) r ρv ρ (ρv x) (ρ x) d hρ (hρ x) h
   refine⟨v,?_,h2⟩
   simp only[execOp,resolve,invoke,builtin,Builtin.min_,List.map_toArray,List.map_cons,Sem.run_bind,Sem.run_pure,Result.andThen_ok]
   rw[h1]
   rfl
  ·cases h
 ·rename_i xs ts
  split at h
  ·rename_i x r hx
   obtain rfl:xs=(x::r).toArray:=by rw[←hx]
   obtain⟨v,h1,h2⟩:=qrS (P:=P) r ρv ρ (ρv x) (ρ x) d hρ (hρ x) h
   refine⟨v,?_,h2⟩
   simp only[execOp,resolve,invoke,builtin,Builtin.max_,List.map_toArray,List.map_cons,Sem.run_bind,Sem.run_pure,Result.andThen_ok]
   rw[h1]
   rfl
  ·cases h
 ·rename_i t x
  unfold qBZ at h
  split at h
  ·cases h
  ·rename_i u hne hu
   injection h with h;subst h
   refine⟨.iface t (ρv x),?_,.iface _ _ _ (hρ x)⟩
   simp only[execOp,Instr.makeInterface,Sem.run_bind,run_underlying hu,Result.andThen_ok]
   cases u with
   |interface m=>exact(hne m rfl).elim
   |_=>rfl
  ·cases h
 ·cases h
def qEh(hp:Nat→Option Blk):D→Option (List Bool)
 |.sl rows=>some (if rows.isEmpty then [true,false]else [false])
 |.nilsl=>some [true]
 |.os b _ len=>(hp b).map fun _=>if len=0 then [true,false]else [false]
 |_=>none
def qFW(P:Program)(hp:Nat→Option Blk)(o:BinOp)(t:TypeId)(d:D):Option (List Bool):=
 match P.underlying t,o with
 |some (.slice _),.eql=>qEh hp d
 |some (.slice _),.neq=>(qEh hp d).map (·.map (!·))
 |_,_=>none
def qmb(P:Program)(ρ:Operand→D)(hp:Nat→Option Blk):Op→Option (List Bool)
 |.binOp o t x (.const (.slice none 0 0)) _=>qFW P hp o t (ρ x)
 |_=>none
theorem qvP(hm:Mem base w pu ow hp){v:Value}{d:D}{bs:List Bool}(hv:Rep w pu ow v d)(h:qEh hp d=some bs):∃a len cap,v=.slice a len cap∧a.isNone∈bs:=by
 unfold qEh at h
 split at h
 ·rename_i rows
  obtain⟨a,cap,k,f,rfl,hc,hk,hne,_⟩:=hv.sl_inv
  refine⟨a,_,cap,rfl,?_⟩
  injection h with h;subst h
  cases rows with
  |nil=>cases a<;>simp
  |cons r rows=>
   obtain⟨b,off,rfl,_⟩:=hne (by simp)
   simp
 ·rw[hv.nilsl_inv]
  injection h with h;subst h
  exact⟨none,0,0,rfl,by simp⟩
 ·rename_i b off len
  obtain⟨blk,hb,rfl⟩:=Option.map_eq_some_iff.1 h
  have hblk:=hm.blk b blk hb
  have hd:ow b≠ .dead:=fun hd=>by rw[hd]at hblk;exact hblk.2
  obtain⟨a,cap,rfl,h2⟩:=hv.os_inv hd
  refine⟨a,len,cap,rfl,?_⟩
  rcases h2 with⟨_,rfl,_⟩|⟨g,o,k,sz,_,hl,hcap⟩
  ·rw[if_pos rfl];cases a<;>simp
  ·by_cases h0:len=0
   ·rw[if_pos h0];cases a<;>simp
   ·rw[if_neg h0]
    obtain⟨rfl,_⟩:=hcap (by omega)
    simp
 ·cases h
theorem qhV{t e:TypeId}{a:Option Addr}{len cap:Nat}(hu:P.underlying t=some (.slice e)):(Op.equal t (.slice a len cap) (.slice none 0 0)).run P w=.ok a.isNone w:=by
 rw[Op.equal,show Op.maxDepth=9999+1 from rfl,Op.equalIn,Sem.run_bind,run_underlying hu]
 cases a<;>rfl
theorem qB3(hm:Mem base w pu ow hp){ρv:Operand→Value}{ρ:Operand→D}(hρ:∀x,Rep w pu ow (ρv x) (ρ x))(hc:∀v,ρv (.const v)=v){o:Oper}{bs:List Bool}(h:qmb P ρ hp o.op=some bs):
  ∃b∈bs,(execOp ρv o).run P w=.ok (.value (.bool b)) w:=by
 obtain⟨dst,op,ty,pos,after,guard⟩:=o
 simp only at h
 unfold qmb at h
 split at h
 ·rename_i op t x t'
  unfold qFW at h
  split at h
  ·rename_i e hu
   obtain⟨a,len,cap,hx,hb⟩:=qvP hm (hρ x) h
   refine⟨_,hb,?_⟩
   have:(do eqGuard .eql t x (.const (.slice none 0 0)) (ρv x) (ρv (.const (.slice none 0 0)));binOp .eql t (ρv x) (ρv (.const (.slice none 0 0))):Sem Value).run P w=.ok (.bool a.isNone) w:=by
    rw[hc,hx,Sem.run_bind,qdh (by simp) (by simp),Result.andThen_ok]
    simp[binOp,qhV hu]
   exact qci this
  ·rename_i e hu
   obtain⟨bs',h',rfl⟩:=Option.map_eq_some_iff.1 h
   obtain⟨a,len,cap,hx,hb⟩:=qvP hm (hρ x) h'
   refine⟨_,List.mem_map.2 ⟨_,hb,rfl⟩,?_⟩
   have:(do eqGuard .neq t x (.const (.slice none 0 0)) (ρv x) (ρv (.const (.slice none 0 0)));binOp .neq t (ρv x) (ρv (.const (.slice none 0 0))):Sem Value).run P w=.ok (.bool (!a.isNone)) w:=by
    rw[hc,hx,Sem.run_bind,qdh (by simp) (by simp),Result.andThen_ok]
    simp[binOp,qhV hu]
   exact qci this
  ·cases h
 ·cases h
end
def qjV(_ _:World):Prop:=True
theorem qjV.same{w w':World}(_:w'.drawn=w.drawn):qjV w w':=trivial
theorem qjV.trans{a b c:World}(_:qjV a b)(_:qjV b c):qjV a c:=trivial
theorem qjV.step{a b c:World}(_:qjV a b)(_:c.drawn=b.drawn+1):qjV a c:=trivial
theorem qjV.any(w w':World):qjV w w':=trivial
structure Below(B:Nat)(w w':World):Prop where
 os:w'.os=w.os
 tape:w'.tape=w.tape
 output:w'.output=w.output
 size:w.heap.size≤w'.heap.size
 block:∀k,k<B→w'.heap[k]? =w.heap[k]?
 drawn:qjV w w'
theorem Below.kit{B:Nat}{w w':World}(h:Below B w w'):Go.RowKit.Below B w w':=⟨h.os,h.tape,h.output,h.size,h.block⟩
theorem Below.refl(B:Nat)(w:World):Below B w w:=⟨rfl,rfl,rfl,Nat.le_refl _,fun _ _=>rfl,.same rfl⟩
theorem Below.trans{B:Nat}{a b c:World}(h:Below B a b)(k:Below B b c):Below B a c:=
 ⟨k.os.trans h.os,k.tape.trans h.tape,k.output.trans h.output,Nat.le_trans h.size k.size,fun i hi=>(k.block i hi).trans (h.block i hi),h.drawn.trans k.drawn⟩
theorem Below.mono{B B':Nat}{w w':World}(h:Below B w w')(hB:B'≤B):Below B' w w':=⟨h.os,h.tape,h.output,h.size,fun k hk=>h.block k (Nat.lt_of_lt_of_le hk hB),h.drawn⟩
theorem Below.drew{B:Nat}{a w:World}(h:Below B a w):Below B a w.drew:=⟨h.os,h.tape,h.output,h.size,h.block,h.drawn.step rfl⟩
theorem Below.heap_alloc(w:World)(o:Obj)(k:Nat)(h:k<w.heap.size):(w.alloc o).heap[k]? =w.heap[k]?:=Go.RowKit.Below.heap_alloc w o k h
theorem qfD{B:Nat}{a w:World}(h:Below B a w){g:Nat}(hg:B≤g)(cs:Array Value):Below B a (w.setRow g cs):=
 h.trans ⟨rfl,rfl,rfl,by simp,fun k hk=>setRow_other w g k cs (by omega),.same rfl⟩
theorem Below.alloc{B:Nat}{a w:World}(h:Below B a w)(hB:B≤w.heap.size)(o:Obj):Below B a (w.alloc o):=
 h.trans ⟨rfl,rfl,rfl,by simp,fun k hk=>Below.heap_alloc _ _ _ (by omega),.same rfl⟩
def qjW(ow:Nat→Ow)(id:Nat)(o:Ow):Nat→Ow:=fun b=>if b=id then o else ow b
theorem qbO(ow:Nat→Ow)(id:Nat)(o:Ow):qjW ow id o id=o:=if_pos rfl
theorem qay{ow:Nat→Ow}{id b:Nat}{o:Ow}(h:b≠id):qjW ow id o b=ow b:=if_neg h
section
variable {P:Program}{w w':World}{pu pu':Nat→Prop}{ow ow':Nat→Ow}{base:Nat}{hp:Nat→Option Blk}
theorem qb5.mono{o:Ow}{blk:Blk}(h:qb5 w pu ow o blk)(he:Ext w pu ow w' pu' ow')(hg:∀g,o.on g→w'.heap[g]? =w.heap[g]?):qb5 w' pu' ow' o blk:=by
 cases o with
 |dead=>exact h
 |pending=>exact h
 |empty=>exact h
 |lies g a k sz=>
  obtain⟨h0,h1,h2,h3,h4,c,t,h5,h6,h7⟩:=h
  refine⟨h0,h1,h2,h3,h4,c,t,(hg g rfl).trans h5,h6,fun i j d hd=>?_⟩
  obtain⟨v,hv,hr⟩:=h7 i j d hd
  exact⟨v,hv,hr.mono he⟩
 |mp g=>
  obtain⟨h0,h1,es,c,h2,h3⟩:=h
  exact⟨h0,h1,es,c,(hg g rfl).trans h2,h3⟩
theorem Mem.on_lt(hm:Mem base w pu ow hp){b g:Nat}(h:(ow b).on g):g<w.heap.size:=by
 cases hb:hp b with
 |none=>rcases hm.none b hb with h'|h'<;>rw[h']at h<;>exact h.elim
 |some blk=>
  have:=hm.blk b blk hb
  generalize ow b=o at h this
  cases o with
  |lies g' o k sz=>
   cases h
   obtain⟨_,_,_,_,_,c,t,h5,_⟩:=this
   exact(Array.getElem?_eq_some_iff.1 h5).1
  |mp g'=>
   cases h
   obtain⟨_,_,es,c,h5,_⟩:=this
   exact(Array.getElem?_eq_some_iff.1 h5).1
  |_=>exact h.elim
theorem Mem.at_lt(hm:Mem base w pu ow hp){b g o k sz:Nat}(h:ow b=.lies g o k sz):g<w.heap.size:=hm.on_lt (Ow.on_lies h)
theorem Ext.grow(hz:∀g,pu g→g<w.heap.size)(hb:Below w.heap.size w w'):Ext w pu ow w' pu ow:=
 ⟨fun g hg=>⟨hg,hb.block g (hz g hg)⟩,fun _=>.inr (.inl rfl)⟩
theorem Mem.grow(hm:Mem base w pu ow hp)(hb:Below w.heap.size w w'):Mem base w' pu ow hp where
 blk b blk h:=(hm.blk b blk h).mono (Ext.grow hm.zone hb) fun g ho=>hb.block g (hm.on_lt ho)
 none:=hm.none
 injO:=hm.injO
 ownO:=hm.ownO
 zone g h:=Nat.lt_of_lt_of_le (hm.zone g h) hb.size
theorem qkA{id:Nat}{o:Ow}(hid:ow id=.pending):Ext w pu ow w pu (qjW ow id o):=by
 refine⟨fun g hg=>⟨hg,rfl⟩,fun b=>?_⟩
 by_cases h:b=id
 ·subst h;exact .inl hid
 ·exact .inr (.inl (qay h))
theorem Mem.set(hm:Mem base w pu ow hp){id:Nat}{o:Ow}{blk:Blk}(hid:ow id=.pending)(hblk:hp id=some blk)(hok:qb5 w pu (qjW ow id o) o blk)
  (hg:∀g,o.on g→base≤g∧¬pu g∧∀b,¬(ow b).on g):Mem base w pu (qjW ow id o) hp where
 blk b blk' h:=by
  by_cases hb:b=id
  ·subst hb
   rw[hblk]at h;injection h with h;subst h
   rw[qbO];exact hok
  ·rw[qay hb]
   exact(hm.blk b blk' h).mono (qkA hid) fun _ _=>rfl
 none b h:=by
  have hb:b≠id:=fun hb=>by subst hb;rw[hblk]at h;cases h
  rw[qay hb];exact hm.none b h
 injO b b' g h h':=by
  by_cases hb:b=id
  ·by_cases hb':b'=id
   ·rw[hb,hb']
   ·subst hb
    rw[qbO]at h
    rw[qay hb']at h'
    exact((hg g h).2.2 b' h').elim
  ·by_cases hb':b'=id
   ·subst hb'
    rw[qbO]at h'
    rw[qay hb]at h
    exact((hg g h').2.2 b h).elim
   ·rw[qay hb]at h
    rw[qay hb']at h'
    exact hm.injO b b' g h h'
 ownO b g h:=by
  by_cases hb:b=id
  ·subst hb
   rw[qbO]at h
   exact⟨(hg g h).1,(hg g h).2.1⟩
  ·rw[qay hb]at h
   exact hm.ownO b g h
 zone:=hm.zone
theorem qew(w:World)(o:Obj):Below w.heap.size w (w.alloc o):=(Below.refl _ _).alloc (Nat.le_refl _) o
theorem Mem.new(hm:Mem base w pu ow hp){id:Nat}{blk:Blk}(hid:ow id=.pending)(hblk:hp id=some blk)(hbase:base≤w.heap.size)(c:Array Value)(t:TypeId)(hfl:blk.flat=true→qan blk.rows=true)(hk:0<blk.k)
  (hrows:∀r∈blk.rows,r.length=blk.k) (hsz:blk.rows.length*blk.k≤c.size)
  (hc:∀(i j:Nat) (d:D),qau blk.rows i j=some d→∃v,c[i*blk.k+j]? =some v∧Rep w pu ow v d):
  Mem base (w.alloc (.cells c t)) pu (qjW ow id (.lies w.heap.size 0 blk.k c.size)) hp∧Ext w pu ow (w.alloc (.cells c t)) pu (qjW ow id (.lies w.heap.size 0 blk.k c.size)):=by
 have hb:=qew w (.cells c t)
 have he:Ext w pu ow (w.alloc (.cells c t)) pu (qjW ow id (.lies w.heap.size 0 blk.k c.size)):=
  ⟨(Ext.grow (ow:=ow) hm.zone hb).zone,(qkA (w:=w) (pu:=pu) hid).ow⟩
 refine⟨(hm.grow hb).set hid hblk ⟨hfl,rfl,hk,hrows,by omega,c,t,?_,rfl,fun i j d hd=>?_⟩ ?_,he⟩
 ·show(w.heap.push _)[w.heap.size]? =_
  simp
 ·obtain⟨v,h1,h2⟩:=hc i j d hd
  exact⟨v,by rw[Nat.zero_add];exact h1,h2.mono he⟩
 ·intro g h
  cases h
  exact⟨hbase,fun hp'=>Nat.lt_irrefl _ (hm.zone _ hp'),fun b h'=>Nat.lt_irrefl _ (hm.on_lt h')⟩
theorem Mem.newMap(hm:Mem base w pu ow hp){id:Nat}{blk:Blk}(hid:ow id=.pending)(hblk:hp id=some blk)(hbase:base≤w.heap.size)(hr:blk.rows=[])(hk:blk.flat=true∧blk.k=0):
  Mem base (w.alloc (.map #[] 0)) pu (qjW ow id (.mp w.heap.size)) hp∧Ext w pu ow (w.alloc (.map #[] 0)) pu (qjW ow id (.mp w.heap.size)):=by
 have hb:=qew w (.map #[] 0)
 refine⟨(hm.grow hb).set hid hblk ⟨fun _=>by rw[hr];rfl,hk,#[],0,?_,by rw[hr];rfl⟩ ?_,⟨(Ext.grow (ow:=ow) hm.zone hb).zone,(qkA (w:=w) (pu:=pu) hid).ow⟩⟩
 ·show(w.heap.push _)[w.heap.size]? =_
  simp
 ·intro g h
  cases h
  exact⟨hbase,fun hp'=>Nat.lt_irrefl _ (hm.zone _ hp'),fun b h'=>Nat.lt_irrefl _ (hm.on_lt h')⟩
theorem Mem.newEmpty(hm:Mem base w pu ow hp){id:Nat}{blk:Blk}(hid:ow id=.pending)(hblk:hp id=some blk)(hr:blk.rows=[])(hb:Below w.heap.size w w'):
  Mem base w' pu (qjW ow id .empty) hp∧Ext w pu ow w' pu (qjW ow id .empty):=
 ⟨(hm.grow hb).set hid hblk ⟨fun _=>by rw[hr];rfl,hr⟩ (fun _ h=>h.elim),⟨(Ext.grow (ow:=ow) hm.zone hb).zone,(qkA (w:=w) (pu:=pu) hid).ow⟩⟩
theorem qcR{v:Value}{d:D}(h:Rep w pu ow v d)(hk:known d=true):v.cells.size=(qai d).length∧∀(i:Nat) (u:Value) (c:D),v.cells[i]? =some u→(qai d)[i]? =some c→Rep w pu ow u c:=by
 have one:v.cells= #[v]→qai d=[d]→v.cells.size=(qai d).length∧∀(i:Nat) (u:Value) (c:D),v.cells[i]? =some u→(qai d)[i]? =some c→Rep w pu ow u c:=by
  intro h1 h2
  rw[h1,h2]
  refine⟨rfl,fun i u c hu hc=>?_⟩
  cases i with
  |zero=>simp at hu hc;subst hu hc;exact h
  |succ i=>simp at hu
 cases h with
 |pure _ _ h=>
  cases h with
  |undef=>cases hk
  |agg vs cs hl h=>exact⟨hl,fun i u c hu hc=>.pure _ _ (h i u c hu hc)⟩
  |_=>exact one rfl rfl
 |agg vs cs hl h=>exact⟨hl,h⟩
 |_=>exact one rfl rfl
end
def qbo{α:Type}(l:List α)(off:Nat)(vs:List α):List α:=l.take off++vs++l.drop (off+vs.length)
def qnx(place:Nat→Option (Nat×Nat))(cells:List D):List (Nat×D)→Option (List D)
 |[]=>some cells
 |(i,d)::rest=>
  match place i with
  |none=>none
  |some (off,size)=>if known d=true∧(qai d).length=size∧off+size≤cells.length then qnx place (qbo cells off (qai d)) rest else none
def qjX(P:Program)(t:TypeId):Option D:=((P.info? t).bind (·.zero)).map ofV
def qG9(P:Program)(t:TypeId):Option (List D×List (Nat×Nat)):=
 match P.info? t,P.underlying t with
 |some it,some (.array n e)=>
  match it.zero,P.info? e with
  |some z,some ie=>if known (ofV z)then some (qai (ofV z),(List.range n).map fun i=>(i*ie.size,ie.size))else none
  |_,_=>none
 |some it,some (.struct fields)=>
  match it.zero,fields.toList.mapM (fun f=>(P.info? f.type).map fun i=>(f.offset,i.size))with
  |some z,some places=>if known (ofV z)then some (qai (ofV z),places)else none
  |_,_=>none
 |_,_=>none
def qjz(P:Program)(t:TypeId)(parts:List (Nat×D)):Option D:=
 (qG9 P t).bind fun(z,places)=>(qnx (places[·]?) z parts).map .agg
def qef(k:Nat)(rows:List (List D)):List (Nat×D)→Option (List (List D))
 |[]=>some rows
 |(i,d)::rest=>if known d=true∧(qai d).length=k∧i<rows.length then qef k (rows.set i (qai d)) rest else none
def op1(P:Program)(ρ:Operand→D)(o:Op):Option (Bool×Blk):=
 match o with
 |.alloc e=>(qjX P e).bind fun z=>if known z=true∧0<(qai z).length then some (true,⟨(qai z).length,qan [qai z],[qai z]⟩)else none
 |.box _ x=>if known (ρ x)=true∧0<(qai (ρ x)).length then some (true,⟨(qai (ρ x)).length,qan [qai (ρ x)],[qai (ρ x)]⟩)else none
 |.buildSlice t len parts=>
  match P.underlying t with
  |some (.slice e)=>
   if len=0 then(if parts.size=0∧0<P.cellsOf e then some (false,⟨0,true,[]⟩)else none)
   else
    (qjX P e).bind fun z=>
     if known z=true∧(qai z).length=P.cellsOf e∧0<P.cellsOf e∧len*P.cellsOf e≤2^24 then
      (qef (P.cellsOf e) (List.replicate len (qai z)) (parts.toList.map fun(i,x)=>(i,ρ x))).map fun rows=>(false,⟨P.cellsOf e,qan rows,rows⟩)
     else none
  |_=>none
 |.makeSlice t l c=>
  match P.underlying t,ρ l,ρ c with
  |some (.slice e),.int _ n,.int _ m=>
   (qjX P e).bind fun z=>
    if known z=true∧(qai z).length=P.cellsOf e∧0<P.cellsOf e∧0≤n∧n=m∧n≤2^62∧(P.bytesOf e:Int)*n≤281474976710656 then
     some (false,⟨P.cellsOf e,qan [qai z],List.replicate n.toNat (qai z)⟩)
    else none
  |_,_,_=>none
 |_=>none
def qy3(id:Nat)(ptr:Bool)(blk:Blk):D:=if ptr then .op id 0 0 else .os id 0 blk.rows.length
section
variable {P:Program}{w w':World}{pu pu':Nat→Prop}{ow ow':Nat→Ow}{base:Nat}{hp:Nat→Option Blk}
def qfE(w:World)(pu:Nat→Prop)(ow:Nat→Ow)(C:Array Value)(L:List D):Prop:=
 C.size=L.length∧∀(i:Nat) (v:Value) (d:D),C[i]? =some v→L[i]? =some d→Rep w pu ow v d
theorem qgb:∀(vs:List Value) (n off:Nat) (C:Array Value) (i:Nat),off+n+vs.length≤C.size→
  ((vs.zipIdx n).foldl (fun cs (x:Value×Nat)=>cs.setIfInBounds (off+x.2) x.1) C)[i]? =if off+n≤i∧i<off+n+vs.length then vs[i-(off+n)]? else C[i]?
 |[],n,off,C,i,_=>by simp;omega
 |v::vs,n,off,C,i,h=>by
  rw[List.zipIdx_cons,List.foldl_cons,qgb vs (n+1) off _ i (by simp at h ⊢;omega)]
  simp only[List.length_cons]at h ⊢
  by_cases h1:off+(n+1)≤i∧i<off+(n+1)+vs.length
  ·rw[if_pos h1,if_pos (by omega),show i-(off+n)=(i-(off+(n+1)))+1 by omega,List.getElem?_cons_succ]
  ·rw[if_neg h1,Array.getElem?_setIfInBounds]
   by_cases h2:off+n=i
   ·rw[if_pos h2,if_pos (by omega),if_pos (by omega),show i-(off+n)=0 by omega,List.getElem?_cons_zero]
   ·rw[if_neg h2,if_neg (by omega)]
theorem qfF:∀(vs:List (Value×Nat)) (off:Nat) (C:Array Value),(vs.foldl (fun cs (x:Value×Nat)=>cs.setIfInBounds (off+x.2) x.1) C).size=C.size
 |[],_,_=>rfl
 |v::vs,off,C=>by rw[List.foldl_cons,qfF vs off];simp
theorem qj8(vs C:Array Value)(off:Nat):vs.zipIdx.foldl (fun cs (x:Value×Nat)=>cs.setIfInBounds (off+x.2) x.1) C=(vs.toList.zipIdx 0).foldl (fun cs (x:Value×Nat)=>cs.setIfInBounds (off+x.2) x.1) C:=by
 rw[←Array.foldl_toList,Array.toList_zipIdx]
theorem qcS{α:Type}{l vs:List α}{off:Nat}(h:off+vs.length≤l.length):(qbo l off vs).length=l.length:=by
 simp[qbo];omega
theorem qc3{α:Type}{l vs:List α}{off i:Nat}(h:off+vs.length≤l.length):(qbo l off vs)[i]? =if off≤i∧i<off+vs.length then vs[i-off]? else l[i]?:=by
 unfold qbo
 have hl:(l.take off).length=off:=by simp;omega
 by_cases h1:i<off
 ·rw[List.append_assoc,List.getElem?_append_left (by omega),List.getElem?_take,if_pos h1,if_neg (by omega)]
 ·by_cases h2:i<off+vs.length
  ·rw[if_pos (by omega),List.getElem?_append_left (by simp;omega),List.getElem?_append_right (by omega),hl]
  ·rw[if_neg (by omega),List.getElem?_append_right (by simp;omega),List.getElem?_drop]
   congr 1
   simp;omega
theorem qfE.splice{C:Array Value}{L:List D}(h:qfE w pu ow C L){v:Value}{d:D}(hv:Rep w pu ow v d)(hk:known d=true){off:Nat}(hb:off+(qai d).length≤L.length):
  qfE w pu ow (v.cells.zipIdx.foldl (fun cs (x:Value×Nat)=>cs.setIfInBounds (off+x.2) x.1) C) (qbo L off (qai d)):=by
 obtain⟨h1,h2⟩:=qcR hv hk
 refine⟨by rw[qj8,qfF,h.1,qcS hb],fun i u c hu hc=>?_⟩
 rw[qj8,qgb _ 0 off C i (by rw[h.1];simp;omega)]at hu
 rw[qc3 hb]at hc
 have hl:v.cells.toList.length=(qai d).length:=by rw[←h1];simp
 simp only[Nat.add_zero,hl]at hu
 split at hc
 ·rename_i hi
  rw[if_pos hi]at hu
  exact h2 (i-off) u c (by simpa using hu) hc
 ·rename_i hi
  rw[if_neg hi]at hu
  exact h.2 i u c hu hc
theorem qqI{place place':Nat→Option (Nat×Nat)}(hpl:∀i x,place i=some x→place' i=some x){ρv:Operand→Value}{ρ:Operand→D}(hρ:∀x,Rep w pu ow (ρv x) (ρ x)):∀(parts:List (Nat×Operand)) (C:Array Value) (L L':List D),qfE w pu ow C L→
  qnx place L (parts.map fun(i,x)=>(i,ρ x))=some L'→∃C',Instr.fill place' C (parts.map fun(i,x)=>(i,ρv x))=some C'∧qfE w pu ow C' L'
 |[],C,L,L',h,hf=>by
  simp only[List.map_nil,qnx,Option.some.injEq]at hf
  subst hf
  exact⟨C,rfl,h⟩
 |(i,x)::parts,C,L,L',h,hf=>by
  simp only[List.map_cons,qnx]at hf
  cases hp:place i with
  |none=>rw[hp]at hf;cases hf
  |some os=>
   obtain⟨off,size⟩:=os
   rw[hp]at hf
   simp only at hf
   split at hf
   ·rename_i hc
    obtain⟨hk,hs,hb⟩:=hc
    obtain⟨C',h1,h2⟩:=qqI hpl hρ parts _ _ L' (h.splice (hρ x) hk (off:=off) (by omega)) hf
    refine⟨C',?_,h2⟩
    simp only[List.map_cons,Instr.fill,hpl i _ hp]
    rw[if_neg]
    ·exact h1
    ·have:=(qcR (hρ x) hk).1
     rw[h.1,this]
     simp only[ne_eq,Bool.or_eq_true,decide_eq_true_eq,not_or]
     exact⟨fun hh=>hh hs,by omega⟩
   ·cases hf
theorem qoN{t:TypeId}{parts:Array (Nat×Operand)}{ρv:Operand→Value}{ρ:Operand→D}{d:D}(hρ:∀x,Rep w pu ow (ρv x) (ρ x))
  (h:qjz P t (parts.toList.map fun(i,x)=>(i,ρ x))=some d):∃v,(Instr.build t (parts.map fun(i,x)=>(i,ρv x))).run P w=.ok v w∧Rep w pu ow v d:=by
 unfold qjz at h
 obtain⟨⟨z,places⟩,hl,h⟩:=Option.bind_eq_some_iff.1 h
 obtain⟨L',hf,rfl⟩:=Option.map_eq_some_iff.1 h
 unfold qG9 at hl
 split at hl
 ·rename_i it n e hi hu
  split at hl
  ·rename_i zv ie hz hie
   split at hl
   ·rename_i hk
    injection hl with hl;injection hl with h1 h2;subst h1 h2
    have hz0:qfE w pu ow zv.cells (qai (ofV zv)):=qcR (qhm w pu ow zv) hk
    obtain⟨C',h1,h2⟩:=qqI (place':=fun i=>some (i*ie.size,ie.size)) (fun i x hx=>by
     rw[List.getElem?_map]at hx
     obtain⟨j,hj,rfl⟩:=Option.map_eq_some_iff.1 hx
     rw[List.getElem?_eq_some_iff]at hj
     obtain⟨hlt,hj⟩:=hj
     simp at hj
     rw[hj]) hρ parts.toList _ _ L' hz0 hf
    refine⟨.agg C',run_build w t _ C' ?_,.agg _ _ h2.1 h2.2⟩
    simp only[Program.built,hi,hu,hz,hie]
    simpa using h1
   ·cases hl
  ·cases hl
 ·rename_i it fields hi hu
  split at hl
  ·rename_i zv pl hz hpl
   split at hl
   ·rename_i hk
    injection hl with hl;injection hl with h1 h2;subst h1 h2
    have hz0:qfE w pu ow zv.cells (qai (ofV zv)):=qcR (qhm w pu ow zv) hk
    obtain⟨C',h1,h2⟩:=qqI (place':=(pl.toArray[·]?)) (fun i x hx=>by simpa using hx) hρ parts.toList _ _ L' hz0 hf
    refine⟨.agg C',run_build w t _ C' ?_,.agg _ _ h2.1 h2.2⟩
    simp only[Program.built,hi,hu,hz,hpl]
    simpa using h1
   ·cases hl
  ·cases hl
 ·cases hl
def qex(w:World)(pu:Nat→Prop)(ow:Nat→Ow)(k:Nat)(C:Array Value)(rows:List (List D)):Prop:=
 C.size=rows.length*k∧(∀r∈rows,r.length=k)∧∀(i j:Nat) (d:D),qau rows i j=some d→∃v,C[i*k+j]? =some v∧Rep w pu ow v d
theorem qjY{n i j:Nat}{r:List D}{d:D}(h:qau (List.replicate n r) i j=some d):i<n∧r[j]? =some d:=by
 unfold qau at h
 rw[List.getElem?_replicate]at h
 split at h
 ·rename_i hi;exact⟨hi,h⟩
 ·simp at h
theorem qex.zero{k n:Nat}{z:Value}(hz:known (ofV z)=true)(hl:(qai (ofV z)).length=k):qex w pu ow k (madeCells z.cells (n*k)) (List.replicate n (qai (ofV z))):=by
 obtain⟨h1,h2⟩:=qcR (qhm w pu ow z) hz
 refine⟨by simp[size_madeCells],fun r hr=>by rw[(List.mem_replicate.1 hr).2];exact hl,fun i j d hd=>?_⟩
 obtain⟨hi,hj⟩:=qjY hd
 have hjk:j<k:=by rw[←hl];exact(List.getElem?_eq_some_iff.1 hj).1
 have hlt:i*k+j<n*k:=by
  have:(i+1)*k≤n*k:=Nat.mul_le_mul_right k hi
  rw[Nat.add_mul]at this
  omega
 have hzj:z.cells[j]? =some (z.cells[j]'(by omega)):=Array.getElem?_eq_getElem (by omega)
 refine⟨z.cells[j]'(by omega),?_,h2 j _ d hzj hj⟩
 have hmod:(i*k+j)%z.cells.size=j:=by
  rw[h1,hl,Nat.mul_comm,Nat.mul_add_mod,Nat.mod_eq_of_lt hjk]
 rw[Array.getElem?_eq_getElem (by rw[size_madeCells];exact hlt)]
 simp only[madeCells,Array.getElem_map,Array.getElem_range,hmod]
 congr 1
 exact getElem!_pos z.cells j (by omega)
theorem qmA{rows:List (List D)}{i i' j:Nat}{r:List D}{d:D}(h:qau (rows.set i r) i' j=some d):(i=i'∧i<rows.length∧r[j]? =some d)∨(i≠i'∧qau rows i' j=some d):=by
 unfold qau at h
 rw[List.getElem?_set]at h
 split at h
 ·rename_i hi
  split at h
  ·rename_i hlt;subst hi;exact .inl ⟨rfl,hlt,h⟩
  ·simp at h
 ·rename_i hi;exact .inr ⟨hi,h⟩
theorem qex.set{k:Nat}{C:Array Value}{rows:List (List D)}(h:qex w pu ow k C rows){v:Value}{d:D}(hv:Rep w pu ow v d)(hk:known d=true){i:Nat}(hi:i<rows.length)(hl:(qai d).length=k):
  qex w pu ow k (v.cells.zipIdx.foldl (fun cs (x:Value×Nat)=>cs.setIfInBounds (i*k+x.2) x.1) C) (rows.set i (qai d)):=by
 obtain⟨h1,h2⟩:=qcR hv hk
 have hfit:i*k+k≤rows.length*k:=by rw[←Nat.succ_mul];exact Nat.mul_le_mul_right k hi
 have hll:v.cells.toList.length=k:=by simp[h1,hl]
 refine⟨by rw[qj8,qfF,h.1];simp,fun r hr=>?_,fun i' j c hc=>?_⟩
 ·rcases List.mem_or_eq_of_mem_set hr with hr|hr
  ·exact h.2.1 r hr
  ·rw[hr,hl]
 ·rw[qj8,qgb _ 0 (i*k) C _ (by rw[h.1,hll];omega),hll]
  rcases qmA hc with⟨rfl,_,hj⟩|⟨hne,hj⟩
  ·have hjk:j<k:=by rw[←hl];exact(List.getElem?_eq_some_iff.1 hj).1
   rw[if_pos (by omega)]
   have hvj:v.cells[j]? =some (v.cells[j]'(by omega)):=Array.getElem?_eq_getElem (by omega)
   refine⟨v.cells[j]'(by omega),?_,h2 j _ c hvj hj⟩
   rw[show i*k+j-(i*k+0)=j by omega,Array.getElem?_toList,hvj]
  ·obtain⟨u,hu,hr⟩:=h.2.2 i' j c hj
   have hjk:j<k:=by
    unfold qau at hj
    obtain⟨r,hr,hj⟩:=Option.bind_eq_some_iff.1 hj
    rw[←h.2.1 r (List.mem_of_getElem? hr)]
    exact(List.getElem?_eq_some_iff.1 hj).1
   rw[if_neg]
   ·exact⟨u,hu,hr⟩
   ·rintro⟨ha,hb⟩
    rcases Nat.lt_or_gt_of_ne hne with hlt|hgt
    ·have:=Nat.mul_le_mul_right k (show i+1≤i' from hlt)
     rw[Nat.add_mul]at this
     omega
    ·have:=Nat.mul_le_mul_right k (show i'+1≤i from hgt)
     rw[Nat.add_mul]at this
     omega
theorem qkB{k:Nat}{ρv:Operand→Value}{ρ:Operand→D}(hρ:∀x,Rep w pu ow (ρv x) (ρ x)):∀(parts:List (Nat×Operand)) (C:Array Value) (rows rows':List (List D)),qex w pu ow k C rows→
  qef k rows (parts.map fun(i,x)=>(i,ρ x))=some rows'→∃C',Instr.fill (fun i=>some (i*k,k)) C (parts.map fun(i,x)=>(i,ρv x))=some C'∧qex w pu ow k C' rows'∧rows'.length=rows.length
 |[],C,L,L',h,hf=>by
  simp only[List.map_nil,qef,Option.some.injEq]at hf
  subst hf
  exact⟨C,rfl,h,rfl⟩
 |(i,x)::parts,C,L,L',h,hf=>by
  simp only[List.map_cons,qef]at hf
  split at hf
  ·rename_i hc
   obtain⟨hk,hs,hb⟩:=hc
   obtain⟨C',h1,h2,h3⟩:=qkB hρ parts _ _ L' (h.set (hρ x) hk hb hs) hf
   refine⟨C',?_,h2,by rw[h3];simp⟩
   have hsz:=(qcR (hρ x) hk).1
   have hfit:i*k+k≤L.length*k:=by rw[←Nat.succ_mul];exact Nat.mul_le_mul_right k hb
   simp only[List.map_cons,Instr.fill]
   rw[if_neg]
   ·exact h1
   ·rw[h.1,hsz]
    simp only[ne_eq,Bool.or_eq_true,decide_eq_true_eq,not_or]
    exact⟨fun hh=>hh hs,by omega⟩
  ·cases hf
end
section
variable {P:Program}{w w':World}{pu pu':Nat→Prop}{ow ow':Nat→Ow}{base:Nat}{hp:Nat→Option Blk}
def qB4(P:Program)(base:Nat)(w:World)(pu:Nat→Prop)(ow:Nat→Ow)(hp:Nat→Option Blk)(id:Nat)(S:Sem Next)(d:D):Prop:=
 ∃v w' ow',S.run P w=.ok (.value v) w'∧Mem base w' pu ow' hp∧Ext w pu ow w' pu ow'∧Below w.heap.size w w'∧Rep w' pu ow' v d∧∀b,b≠id→ow' b=ow b
theorem qeg{t:TypeId}{z:D}(h:qjX P t=some z):∃i zv,P.info? t=some i∧i.zero=some zv∧z=ofV zv:=by
 unfold qjX at h
 obtain⟨zv,h',rfl⟩:=Option.map_eq_some_iff.1 h
 obtain⟨i,hi,hz⟩:=Option.bind_eq_some_iff.1 h'
 exact⟨i,zv,hi,hz,rfl⟩
theorem qB4.row{id:Nat}{ptr:Bool}{blk:Blk}{S:Sem Next}(hm:Mem base w pu ow hp)(hid:ow id=.pending)(hblk:hp id=some blk)(hbase:base≤w.heap.size)(c:Array Value)(t:TypeId)(hfl:blk.flat=true→qan blk.rows=true)(hk:0<blk.k)
  (hr:qex w pu ow blk.k c blk.rows)
  (hrun:S.run P w=.ok (.value (if ptr then .pointer (some ⟨w.heap.size,0,none⟩)else .slice (some ⟨w.heap.size,0,none⟩) blk.rows.length blk.rows.length)) (w.alloc (.cells c t))):
  qB4 P base w pu ow hp id S (qy3 id ptr blk):=by
 obtain⟨h1,h2⟩:=hm.new hid hblk hbase c t hfl hk hr.2.1 (Nat.le_of_eq hr.1.symm) hr.2.2
 refine⟨_,_,_,hrun,h1,h2,qew _ _,?_,fun b hb=>qay hb⟩
 cases ptr with
 |true=>
  have:=Rep.opa (w:=w.alloc (.cells c t)) (pu:=pu) (ow:=qjW ow id (.lies w.heap.size 0 blk.k c.size)) id 0 0 w.heap.size 0 blk.k c.size (qbO _ _ _)
  simpa[qy3]using this
 |false=>
  refine .osa _ _ id 0 _ w.heap.size 0 blk.k c.size (qbO _ _ _) (Nat.le_refl _) (fun _=>⟨by simp,?_⟩)
  rw[hr.1,Nat.zero_add,Nat.zero_add];exact Nat.le_refl _
theorem qkC{v:Value}{d:D}(h:Rep w pu ow v d)(hk:known d=true):qex w pu ow (qai d).length v.cells [qai d]:=by
 obtain⟨h1,h2⟩:=qcR h hk
 refine⟨by simp[h1],by simp,fun i j c hc=>?_⟩
 cases i with
 |zero=>
  have hj:(qai d)[j]? =some c:=by simpa[qau]using hc
  have hlt:=(List.getElem?_eq_some_iff.1 hj).1
  have hv:v.cells[j]? =some (v.cells[j]'(by omega)):=Array.getElem?_eq_getElem (by omega)
  exact⟨_,by rw[Nat.zero_mul,Nat.zero_add];exact hv,h2 j _ c hv hj⟩
 |succ i=>simp[qau]at hc
theorem qA2(hm:Mem base w pu ow hp)(hbase:base≤w.heap.size){id:Nat}(hid:ow id=.pending){ρv:Operand→Value}{ρ:Operand→D}(hρ:∀x,Rep w pu ow (ρv x) (ρ x)){o:Oper}{ptr:Bool}{blk:Blk}
  (h:op1 P ρ o.op=some (ptr,blk)) (hblk:hp id=some blk):qB4 P base w pu ow hp id (execOp ρv o) (qy3 id ptr blk):=by
 obtain⟨dst,op,ty,pos,after,guard⟩:=o
 simp only at h
 unfold op1 at h
 split at h
 ·rename_i e
  obtain⟨z,hz,h⟩:=Option.bind_eq_some_iff.1 h
  split at h
  ·rename_i hc
   injection h with h;injection h with h1 h2;subst h1 h2
   obtain⟨i,zv,hi,hzv,rfl⟩:=qeg hz
   refine qB4.row hm hid hblk hbase zv.cells e (fun h=>h) hc.2 (qkC (qhm w pu ow zv) hc.1) ?_
   simp[execOp,Instr.alloc,zeroValue,typeInfo,hi,hzv,newVar,newRow]
  ·cases h
 ·rename_i e x
  split at h
  ·rename_i hc
   injection h with h;injection h with h1 h2;subst h1 h2
   refine qB4.row hm hid hblk hbase (ρv x).cells e (fun h=>h) hc.2 (qkC (hρ x) hc.1) ?_
   simp[execOp,Instr.box,newVar,newRow]
  ·cases h
 ·rename_i t len parts
  split at h
  ·rename_i e hu
   split at h
   ·rename_i hlen
    subst hlen
    split at h
    ·rename_i hps
     injection h with h;injection h with h1 h2;subst h1 h2
     obtain⟨i,hi⟩:=qfC hps.2
     have hb:=qew w (.cells (#[]:Array Value) e)
     obtain⟨h1,h2⟩:=hm.newEmpty hid hblk rfl hb
     refine⟨.slice (some ⟨w.heap.size,0,none⟩) 0 0,_,_,?_,h1,h2,hb,.ose _ id 0 (qbO _ _ _),fun b hb=>qay hb⟩
     have hp0:parts= #[]:=Array.eq_empty_of_size_eq_zero hps.1
     subst hp0
     simp[execOp,Instr.buildSlice,run_underlying hu,qbc hps.2,Instr.fill,newRow,Array.range_zero']
    ·cases h
   ·rename_i hlen
    obtain⟨z,hz,h⟩:=Option.bind_eq_some_iff.1 h
    split at h
    ·rename_i hc
     obtain⟨hk,hl,hpos,hsz⟩:=hc
     obtain⟨rows,hf,h⟩:=Option.map_eq_some_iff.1 h
     injection h with h1 h2;subst h1 h2
     obtain⟨i,zv,hi,hzv,rfl⟩:=qeg hz
     obtain⟨C',h1,h2,h3⟩:=qkB hρ parts.toList _ _ rows (qex.zero (n:=len) hk hl) hf
     rw[List.length_replicate]at h3
     have hcs:P.cellsOf e=i.size:=by simp[Program.cellsOf,hi]
     refine qB4.row hm hid hblk hbase C' e (fun h=>h) hpos h2 ?_
     have hne:¬len*P.cellsOf e=0:=by
      intro hh
      rcases Nat.mul_eq_zero.1 hh with hh|hh<;>omega
     have hne2:¬(2^24<len*P.cellsOf e):=by omega
     have h1':Instr.fill (fun i=>some (i*P.cellsOf e,P.cellsOf e)) (madeCells zv.cells (len*P.cellsOf e)) (parts.map fun(i,x)=>(i,ρv x)).toList=some C':=by simpa using h1
     simp only[execOp,Instr.buildSlice,run_underlying hu,qbc hpos,Sem.run_bind,Result.andThen_ok,Sem.run_ite,zeroValue,typeInfo,run_program,hi,hzv,Sem.run_pure,hne,gt_iff_lt,hne2,if_false]
     unfold madeCells at h1'
     rw[h1']
     simp[newRow,h3]
    ·cases h
  ·cases h
 ·rename_i t l c
  split at h
  ·rename_i e k n k' m hu hln hcm
   obtain⟨z,hz,h'⟩:=Option.bind_eq_some_iff.1 h
   clear h
   split at h'
   ·rename_i hc
    obtain⟨hk,hl,hpos,h0,rfl,h62,hb⟩:=hc
    simp only[Option.some.injEq,Prod.mk.injEq]at h'
    obtain⟨rfl,rfl⟩:=h'
    obtain⟨i,zv,hi,hzv,rfl⟩:=qeg hz
    have hcs:P.cellsOf e=i.size:=by simp[Program.cellsOf,hi]
    have hbs:P.bytesOf e=i.bytes:=by simp[Program.bytesOf,hi]
    have h1:=hρ l
    rw[hln]at h1
    have h2:=hρ c
    rw[hcm]at h2
    refine qB4.row hm hid hblk hbase (madeCells zv.cells (n.toNat*P.cellsOf e)) e (fun h=>by simp only[qan,List.all_cons,List.all_nil,Bool.and_true]at h;simp[qan,h]) hpos (qex.zero hk hl) ?_
    rw[hcs]
    simp[execOp,h1.int_inv,h2.int_inv,run_make w t e i zv hu hi hzv k k' n n h0 (Int.le_refl _) (by rw[hbs]at hb;exact hb) (by omega)]
   ·cases h'
  ·cases h
 ·cases h
end
mutual
def qep(b:Nat):D→Bool
 |.os c _ _=>c==b
 |.op c _ _=>c==b
 |.om c=>c==b
 |.agg cs=>qiV b cs
 |.tup cs=>qiV b cs
 |.clo _ xs ys=>qiV b xs||qiV b ys
 |.iface _ d=>qep b d
 |_=>false
def qiV(b:Nat):List D→Bool
 |[]=>false
 |d::ds=>qep b d||qiV b ds
end
theorem qgc{b:Nat}:∀{ds:List D},qiV b ds=false→∀(i:Nat) (d:D),ds[i]? =some d→qep b d=false
 |[],_,i,d,h=>by simp at h
 |e::ds,hm,i,d,h=>by
  simp only[qiV,Bool.or_eq_false_iff]at hm
  cases i with
  |zero=>simp at h;subst h;exact hm.1
  |succ i=>exact qgc hm.2 i d (by simpa using h)
theorem qoO{b:Nat}{d:D}(h:qkw d=true):qep b d=false:=by
 cases d<;>first|rfl|cases h
def pd(b:Nat)(d:D):D:=if qep b d then .undef else d
def qfZ(b:Nat)(env:Env):Env:=env.map fun(s,d)=>(s,pd b d)
def pb(b:Nat)(blk:Blk):Blk:=if blk.flat then blk else{blk with rows:=blk.rows.map fun r=>r.map (pd b)}
section
variable {P:Program}{w w':World}{pu pu':Nat→Prop}{ow ow':Nat→Ow}{base:Nat}{hp:Nat→Option Blk}
theorem qoP(b:Nat):∀(env:Env) (s:Nat),lkE (qfZ b env) s=pd b (lkE env s)
 |[],s=>rfl
 |(k,d)::env,s=>by
  simp only[qfZ,List.map_cons,lkE]
  split
  ·rfl
  ·exact qoP b env s
theorem Rep.set_other{v:Value}{d:D}{b:Nat}{o:Ow}(h:Rep w pu ow v d):qep b d=false→Rep w pu (qjW ow b o) v d:=by
 induction h with
 |pure v d h=>exact fun _=>.pure v d h
 |agg vs cs hl _ ih=>exact fun hm=>.agg vs cs hl fun i v d h1 h2=>ih i v d h1 h2 (qgc (by simpa[qep]using hm) i d h2)
 |tup vs cs hl _ ih=>exact fun hm=>.tup vs cs hl fun i v d h1 h2=>ih i v d h1 h2 (qgc (by simpa[qep]using hm) i d h2)
 |clo fn xs ys cs ds hx _ hy _ ih ih'=>
  intro hm
  simp only[qep,Bool.or_eq_false_iff]at hm
  exact .clo fn xs ys cs ds hx (fun i v d h1 h2=>ih i v d h1 h2 (qgc hm.1 i d h2)) hy (fun i v d h1 h2=>ih' i v d h1 h2 (qgc hm.2 i d h2))
 |iface t v d _ ih=>exact fun hm=>.iface t v d (ih (by simpa[qep]using hm))
 |nilsl=>exact fun _=>.nilsl
 |osd a n c b' off len hb=>
  intro hm
  have:b'≠b:=by simpa[qep]using hm
  exact .osd a n c b' off len ((qay this).trans hb)
 |ose a b' off hb=>
  intro hm
  have:b'≠b:=by simpa[qep]using hm
  exact .ose a b' off ((qay this).trans hb)
 |osa a cap b' off len g o k sz hb hl hm'=>
  intro hm
  have:b'≠b:=by simpa[qep]using hm
  exact .osa a cap b' off len g o k sz ((qay this).trans hb) hl hm'
 |opd a b' row off hb=>
  intro hm
  have:b'≠b:=by simpa[qep]using hm
  exact .opd a b' row off ((qay this).trans hb)
 |opa b' row off g o k sz hb=>
  intro hm
  have:b'≠b:=by simpa[qep]using hm
  exact .opa b' row off g o k sz ((qay this).trans hb)
 |omd r b' hb=>
  intro hm
  have:b'≠b:=by simpa[qep]using hm
  exact .omd r b' ((qay this).trans hb)
 |oma b' g hb=>
  intro hm
  have:b'≠b:=by simpa[qep]using hm
  exact .oma b' g ((qay this).trans hb)
theorem Rep.pd{v:Value}{d:D}{b:Nat}{o:Ow}(h:Rep w pu ow v d):Rep w pu (qjW ow b o) v (pd b d):=by
 unfold Go.Pv.pd
 split
 ·exact .pure _ _ (.undef v)
 ·rename_i hm;exact h.set_other (by simpa using hm)
theorem qny{rows:List (List D)}{b i j:Nat}{d:D}(h:qau (rows.map fun r=>r.map (Go.Pv.pd b)) i j=some d):∃e,qau rows i j=some e∧d=Go.Pv.pd b e:=by
 unfold qau at h ⊢
 rw[List.getElem?_map]at h
 cases hr:rows[i]? with
 |none=>rw[hr]at h;simp at h
 |some r=>
  rw[hr]at h
  simp only[Option.map_some,Option.bind_some,List.getElem?_map]at h
  obtain⟨e,he,rfl⟩:=Option.map_eq_some_iff.1 h
  exact⟨e,by simpa using he,rfl⟩
theorem qgd{rows:List (List D)}(h:qan rows=true){i j:Nat}{d:D}(hd:qau rows i j=some d):qkw d=true:=by
 unfold qau at hd
 obtain⟨r,hr,hj⟩:=Option.bind_eq_some_iff.1 hd
 simp only[qan,List.all_eq_true]at h
 exact h r (List.mem_of_getElem? hr) d (List.mem_of_getElem? hj)
theorem qb5.pb{o':Ow}{blk:Blk}{b:Nat}{o:Ow}(h:qb5 w pu ow o' blk):qb5 w pu (qjW ow b o) o' (pb b blk):=by
 unfold Go.Pv.pb
 obtain⟨hf,h⟩:=h
 split
 ·rename_i hfl
  refine⟨hf,?_⟩
  cases o' with
  |dead=>exact h
  |pending=>exact h
  |empty=>exact h
  |lies g a k sz=>
   obtain⟨h1,h2,h3,h4,c,t,h5,h6,h7⟩:=h
   refine⟨h1,h2,h3,h4,c,t,h5,h6,fun i j d hd=>?_⟩
   obtain⟨v,hv,hr⟩:=h7 i j d hd
   exact⟨v,hv,hr.set_other (qoO (qgd (hf hfl) hd))⟩
  |mp g=>exact h
 ·rename_i hfl
  refine⟨fun h=>(hfl h).elim,?_⟩
  cases o' with
  |dead=>exact h
  |pending=>exact h
  |empty=>simpa using h
  |lies g a k sz=>
   obtain⟨h1,h2,h3,h4,c,t,h5,h6,h7⟩:=h
   refine⟨h1,h2,fun r hr=>?_,by simpa using h4,c,t,h5,h6,fun i j d hd=>?_⟩
   ·obtain⟨r',hr',rfl⟩:=List.mem_map.1 hr
    simpa using h3 r' hr'
   ·obtain⟨e,he,rfl⟩:=qny hd
    obtain⟨v,hv,hr⟩:=h7 i j e he
    exact⟨v,hv,hr.pd⟩
  |mp g=>exact(hfl h.1.1).elim
def qoQ(b:Nat)(blk:Blk)(hp:Nat→Option Blk):Nat→Option Blk:=fun c=>if c=b then some blk else(hp c).map (pb b)
theorem Mem.write(hm:Mem base w pu ow hp){b:Nat}{o:Ow}{blk blk':Blk}(hb:hp b=some blk)(hl:ow b≠ .dead){row:Option Nat}(hgr:∀g,(∀x,row=some x→g≠x)→g<w.heap.size→w'.heap[g]? =w.heap[g]?)(hsz:w.heap.size≤w'.heap.size)
  (hrow:∀x,row=some x→(ow b).on x)
  (ho:∀g,o.on g→base≤g∧¬pu g∧∀b',b'≠b→¬(ow b').on g)
  (hok:qb5 w' pu (qjW ow b o) o blk'):Mem base w' pu (qjW ow b o) (qoQ b blk' hp):=by
 have hzone:∀g,pu g→w'.heap[g]? =w.heap[g]?:=fun g hg=>hgr g (fun x hx=>by
  have hat:=hrow x hx
  rintro rfl
  exact(hm.ownO b _ hat).2 hg) (hm.zone g hg)
 have hother:∀b',b'≠b→∀g,(ow b').on g→w'.heap[g]? =w.heap[g]?:=fun b' hne g hat=>hgr g (fun x hx=>by
  have hat':=hrow x hx
  rintro rfl
  exact hne (hm.injO b' b _ hat hat')) (hm.on_lt hat)
 have hext:Ext w pu (qjW ow b o) w' pu (qjW ow b o):=⟨fun g hg=>⟨hg,hzone g hg⟩,fun _=>.inr (.inl rfl)⟩
 refine⟨fun c blk2 hc=>?_,fun c hc=>?_,fun c c' g h h'=>?_,fun c g h=>?_,fun g hg=>Nat.lt_of_lt_of_le (hm.zone g hg) hsz⟩
 ·unfold qoQ at hc
  split at hc
  ·rename_i hcb;subst hcb;injection hc with hc;subst hc;rw[qbO];exact hok
  ·rename_i hcb
   obtain⟨blk3,h3,rfl⟩:=Option.map_eq_some_iff.1 hc
   rw[qay hcb]
   exact(qb5.pb (b:=b) (o:=o) (hm.blk c blk3 h3)).mono hext fun g hat=>hother c hcb g hat
 ·unfold qoQ at hc
  split at hc
  ·cases hc
  ·rename_i hcb
   rw[qay hcb]
   exact hm.none c (by simpa using hc)
 ·by_cases hc:c=b
  ·by_cases hc':c'=b
   ·rw[hc,hc']
   ·rw[hc,qbO]at h
    rw[qay hc']at h'
    exact((ho g h).2.2 c' hc' h').elim
  ·by_cases hc':c'=b
   ·rw[hc',qbO]at h'
    rw[qay hc]at h
    exact((ho g h').2.2 c hc h).elim
   ·rw[qay hc]at h
    rw[qay hc']at h'
    exact hm.injO c c' g h h'
 ·by_cases hc:c=b
  ·rw[hc,qbO]at h
   exact⟨(ho g h).1,(ho g h).2.1⟩
  ·rw[qay hc]at h
   exact hm.ownO c g h
end
def qA3(b:Nat)(blk:Blk)(hp:Nat→Option Blk):Nat→Option Blk:=fun c=>if c=b then some blk else hp c
def qjA(P:Program)(hp:Nat→Option Blk)(t:TypeId)(a v:D):Option (Nat×Blk):=
 match a with
 |.op b row off=>(hp b).bind fun blk=>
   if row<blk.rows.length∧known v=true∧(qai v).length=P.cellsOf t∧0<P.cellsOf t∧off+P.cellsOf t≤blk.k∧(qai v).all qhk=true then
    some (b,⟨blk.k,blk.flat&&(qai v).all qkw,blk.rows.set row (qbo (qb6 blk.rows row) off (qai v))⟩)
   else none
 |_=>none
def qaY(hp:Nat→Option Blk):D→Option (List (List D))
 |.sl rows=>some rows
 |.nilsl=>some []
 |.os b off len=>(hp b).bind fun blk=>if off+len≤blk.rows.length then some ((blk.rows.drop off).take len)else none
 |_=>none
def qjB(P:Program)(e:TypeId):Bool:=
 match qjX P e with
 |some z=>known z&&(qai z).length==P.cellsOf e
 |none=>false
def kOK(hp:Nat→Option Blk)(k:Nat):D→Bool
 |.os b _ _=>match hp b with
  |some blk=>blk.k==k||blk.k==0
  |none=>false
 |_=>true
def qcN(P:Program)(hp:Nat→Option Blk)(t:TypeId)(s x:D):Option (Option Nat×Blk):=
 match P.underlying t with
 |some (.slice e)=>
  (qaY hp x).bind fun new=>(qaY hp s).bind fun old=>
   if 0<P.cellsOf e∧(∀r∈new,r.length=P.cellsOf e)∧(∀r∈new,∀c∈r,qhk c=true)∧(old.length+new.length)*P.bytesOf e≤140737488355328∧old.length+new.length≤9223372036854775807∧qjB P e=true∧kOK hp (P.cellsOf e) x=true then
    match s with
    |.nilsl=>some (none,⟨P.cellsOf e,qan new,new⟩)
    |.os b _ _=>(hp b).bind fun blk=>if(blk.k=P.cellsOf e∨blk.k=0)∧(∀r∈old++new,∀c∈r,qep b c=false)then some (some b,⟨P.cellsOf e,blk.flat&&qan new,old++new⟩)else none
    |_=>none
   else none
 |_=>none
section
variable {P:Program}{w w':World}{pu pu':Nat→Prop}{ow ow':Nat→Ow}{base:Nat}{hp:Nat→Option Blk}
theorem qkD{v:Value}{d:D}(h:Rep w pu ow v d)(hc:qhk d=true):v.oneCell'=true:=by
 cases h with
 |pure _ _ h=>cases h<;>first|rfl|cases hc
 |_=>first|rfl|cases hc
theorem Mem.store(hm:Mem base w pu ow hp){b g o k sz:Nat}{blk blk':Blk}(hb:hp b=some blk)(hat:ow b=.lies g o k sz)(C':Array Value)(hsz:C'.size=sz)
  (hf:blk'.flat=true→qan blk'.rows=true) (hk:blk'.k=blk.k) (hlen:blk'.rows.length=blk.rows.length) (hrows:∀r∈blk'.rows,r.length=k)
  (hc:∀(i j:Nat) (d:D),qau blk'.rows i j=some d→∃v,C'[o+i*k+j]? =some v∧Rep w pu ow v d):
  Mem base (w.setRow g C') pu ow (qA3 b blk' hp)∧Ext w pu ow (w.setRow g C') pu ow:=by
 have hblk:=hm.blk b blk hb
 rw[hat]at hblk
 obtain⟨_,h1,h2,h3,h4,c,t,h5,h6,_⟩:=hblk
 have hext:Ext w pu ow (w.setRow g C') pu ow:=⟨fun x hx=>⟨hx,setRow_other w g x C' (by rintro rfl;exact(hm.own b _ _ _ _ hat).2 hx)⟩,fun _=>.inr (.inl rfl)⟩
 refine⟨⟨fun x blk2 hx=>?_,fun x hx=>?_,hm.injO,hm.ownO,fun x hx=>by rw[setRow_size];exact hm.zone x hx⟩,hext⟩
 ·unfold qA3 at hx
  split at hx
  ·rename_i hxb;subst hxb;injection hx with hx;subst hx
   rw[hat]
   refine⟨hf,by rw[hk];exact h1,h2,hrows,by rw[hlen];exact h4,C',t,setRow_heap w g c C' t _ h5,hsz,fun i j d hd=>?_⟩
   obtain⟨v,hv,hr⟩:=hc i j d hd
   exact⟨v,hv,hr.mono hext⟩
  ·rename_i hxb
   exact(hm.blk x blk2 hx).mono hext fun g' hat'=>setRow_other w g g' C' (by rintro rfl;exact hxb (hm.injO x b _ hat' (Ow.on_lies hat)))
 ·unfold qA3 at hx
  split at hx
  ·cases hx
  ·exact hm.none x hx
theorem qza(hm:Mem base w pu ow hp){ρv:Operand→Value}{ρ:Operand→D}(hρ:∀x,Rep w pu ow (ρv x) (ρ x)){o:Oper}{t:TypeId}{a x:Operand}{b:Nat}{blk':Blk}(ho:o.op=.store t a x)
  (h:qjA P hp t (ρ a) (ρ x)=some (b,blk')):∃w',(execOp ρv o).run P w=.ok .skip w'∧Mem base w' pu ow (qA3 b blk' hp)∧Ext w pu ow w' pu ow∧Below base w w':=by
 have ha:=hρ a
 have hx:=hρ x
 obtain⟨dst,op,ty,pos,after,guard⟩:=o
 simp only at ho
 subst ho
 simp only[execOp]
 generalize ρv a=va at ha
 generalize ρ a=da at ha h
 generalize ρv x=vx at hx
 generalize ρ x=dx at hx h
 unfold qjA at h
 split at h
 ·rename_i b' row off
  obtain⟨blk,hb,h⟩:=Option.bind_eq_some_iff.1 h
  split at h
  ·rename_i hc
   obtain⟨hrow,hk,hl,hpos,hfit,hcell⟩:=hc
   simp only[Option.some.injEq,Prod.mk.injEq]at h
   obtain⟨rfl,rfl⟩:=h
   obtain⟨g,o,k,sz,hat,rfl⟩:=ha.op_inv (hm.live hb)
   have hblk:=hm.blk b' blk hb
   rw[hat]at hblk
   obtain⟨hfl,h1,h2,h3,h4,c,ct,h5,h6,h7⟩:=hblk
   obtain⟨hs1,hs2⟩:=qcR hx hk
   have hvl:vx.cells.toList.length=(qai dx).length:=by rw[←hs1];simp
   have hrl:(qb6 blk.rows row).length=k:=h3 _ (qfh hrow)
   have hend:o+row*k+k≤sz:=by
    have:=Nat.mul_le_mul_right k (show row+1≤blk.rows.length from hrow)
    rw[Nat.add_mul]at this
    omega
   have hone:∀v∈vx.cells.toList,v.oneCell'=true:=by
    intro v hv
    obtain⟨i,hi⟩:=List.mem_iff_getElem?.1 hv
    have hlt:=(List.getElem?_eq_some_iff.1 hi).1
    have hd:(qai dx)[i]? =some ((qai dx)[i]'(by omega)):=List.getElem?_eq_getElem (by omega)
    refine qkD (hs2 i v _ (by simpa using hi) hd) ?_
    rw[List.all_eq_true]at hcell
    exact hcell _ (List.getElem_mem _)
   have hrun:=run_storeCells_at (P:=P) g (o+row*k+off) ct vx.cells.toList 0 c w h5 (by rw[hvl];omega) hone
   have hcl:c.toList.length=sz:=by simp[h6]
   have hspl:(c.toList.take (o+row*k+off+0)++vx.cells.toList++c.toList.drop (o+row*k+off+0+vx.cells.toList.length))=qbo c.toList (o+row*k+off) vx.cells.toList:=by simp[qbo]
   rw[hspl]at hrun
   obtain⟨m1,m2⟩:=hm.store (blk':=⟨blk.k,blk.flat&&(qai dx).all qkw,blk.rows.set row (qbo (qb6 blk.rows row) off (qai dx))⟩) hb hat (qbo c.toList (o+row*k+off) vx.cells.toList).toArray
    (by rw[List.size_toArray,qcS (by rw[hvl,hcl];omega),hcl])
    (fun hfl'=>by
     simp only[Bool.and_eq_true]at hfl'
     have h0:=hfl hfl'.1
     simp only[qan,List.all_eq_true]at h0 ⊢
     intro r hr d hd
     rcases List.mem_or_eq_of_mem_set hr with hr|hr
     ·exact h0 r hr d hd
     ·rw[hr]at hd
      unfold qbo at hd
      simp only[List.mem_append]at hd
      rcases hd with(hd|hd)|hd
      ·exact h0 _ (qfh hrow) d (List.mem_of_mem_take hd)
      ·exact(List.all_eq_true.1 hfl'.2) d hd
      ·exact h0 _ (qfh hrow) d (List.mem_of_mem_drop hd))
    rfl (by simp)
    (fun r hr=>by
     rcases List.mem_or_eq_of_mem_set hr with hr|hr
     ·exact h3 r hr
     ·rw[hr,qcS (by omega),hrl])
    (fun i j d hd=>by
     rw[List.getElem?_toArray,qc3 (by rw[hvl,hcl];omega),hvl]
     rcases qmA hd with⟨rfl,_,hj⟩|⟨hne,hj⟩
     ·rw[qc3 (by omega)]at hj
      split at hj
      ·rename_i hjo
       rw[if_pos (by omega)]
       have hlt:=(List.getElem?_eq_some_iff.1 hj).1
       have hvj:vx.cells[j-off]? =some (vx.cells[j-off]'(by omega)):=Array.getElem?_eq_getElem (by omega)
       exact⟨_,by rw[show o+row*k+j-(o+row*k+off)=j-off by omega,Array.getElem?_toList];exact hvj,hs2 _ _ d hvj hj⟩
      ·rename_i hjo
       rw[if_neg (by omega),Array.getElem?_toList]
       exact h7 row j d (qdA hj)
     ·have hjk:j<k:=by
       unfold qau at hj
       obtain⟨r,hr,hj⟩:=Option.bind_eq_some_iff.1 hj
       rw[←h3 r (List.mem_of_getElem? hr)]
       exact(List.getElem?_eq_some_iff.1 hj).1
      rw[if_neg,Array.getElem?_toList]
      ·exact h7 i j d hj
      ·rintro⟨ha,hb⟩
       rcases Nat.lt_or_gt_of_ne hne with hlt|hgt
       ·have:=Nat.mul_le_mul_right k (show row+1≤i from hlt)
        rw[Nat.add_mul]at this
        omega
       ·have:=Nat.mul_le_mul_right k (show i+1≤row from hgt)
        rw[Nat.add_mul]at this
        omega)
   refine⟨_,?_,m1,m2,qfD (Below.refl _ _) (hm.own b' _ _ _ _ hat).1 _⟩
   simp only[Instr.storeAt,Instr.sureAddr,storeVar,Sem.run_bind,Sem.run_pure,Result.andThen_ok,qbc hpos,Sem.run_ite,hs1,hl,ne_eq,not_true_eq_false,if_false,hrun]
  ·cases h
 ·cases h
end
section
variable {P:Program}{w w':World}{pu pu':Nat→Prop}{ow ow':Nat→Ow}{base:Nat}{hp:Nat→Option Blk}
theorem qge{rows:List (List D)}{k i j:Nat}{d:D}(hk:∀r∈rows,r.length=k)(h:qau rows i j=some d):i<rows.length∧j<k:=by
 unfold qau at h
 obtain⟨r,hr,hj⟩:=Option.bind_eq_some_iff.1 h
 exact⟨(List.getElem?_eq_some_iff.1 hr).1,by rw[←hk r (List.mem_of_getElem? hr)];exact(List.getElem?_eq_some_iff.1 hj).1⟩
theorem qkE{n k i j:Nat}(hi:i<n)(hj:j<k):i*k+j<n*k:=by
 have:=Nat.mul_le_mul_right k (show i+1≤n from hi)
 rw[Nat.add_mul]at this
 omega
theorem qiW(hm:Mem base w pu ow hp){v:Value}{d:D}{rows:List (List D)}{k:Nat}(hk:0<k)(hr:∀r∈rows,r.length=k)(hv:Rep w pu ow v d)
  (hblk:∀b off len blk,d=.os b off len→hp b=some blk→blk.k=k∨blk.k=0) (h:qaY hp d=some rows):
  ∃(ad:Option Addr) (cap:Nat) (F:Nat→Value),v=.slice ad rows.length cap∧rows.length≤cap∧(rows≠[]→∃g off,ad=some ⟨g,off,none⟩∧∀i,i<rows.length*k→w.cell? ⟨g,off+i,none⟩=some (F i))∧
   ∀(i j:Nat) (c:D),qau rows i j=some c→Rep w pu ow (F (i*k+j)) c:=by
 unfold qaY at h
 split at h
 ·rename_i rows'
  injection h with h;subst h
  obtain⟨ad,cap,k',f,rfl,hcap,hk',hmm,hf⟩:=hv.sl_inv
  refine⟨ad,cap,fun i=>f (i/k) (i%k),rfl,hcap,fun hne=>?_,fun i j c hc=>?_⟩
  ·obtain⟨g,off,rfl,_,hcell⟩:=hmm hne
   have hkk:k'=k:=by
    obtain⟨r,hrm⟩:=List.exists_mem_of_ne_nil _ hne
    rw[←hk' r hrm,hr r hrm]
   subst hkk
   refine⟨g,off,rfl,fun i hi=>?_⟩
   rw[←hcell (i/k') (i%k') (Nat.div_lt_of_lt_mul (by rw[Nat.mul_comm];exact hi)) (Nat.mod_lt _ hk),Nat.add_assoc,Nat.mul_comm (i/k') k',Nat.div_add_mod]
  ·obtain⟨_,hj⟩:=qge hr hc
   have h1:(i*k+j)/k=i:=by rw[Nat.mul_comm,Nat.mul_add_div hk,Nat.div_eq_of_lt hj,Nat.add_zero]
   have h2:(i*k+j)%k=j:=by rw[Nat.mul_comm,Nat.mul_add_mod,Nat.mod_eq_of_lt hj]
   show Rep w pu ow (f ((i*k+j)/k) ((i*k+j)%k)) c
   rw[h1,h2]
   exact .pure _ _ (hf i j c hc)
 ·injection h with h;subst h
  refine⟨none,0,fun _=>undef,hv.nilsl_inv,Nat.le_refl _,fun hne=>(hne rfl).elim,fun i j c hc=>?_⟩
  simp[qau]at hc
 ·rename_i b off len
  obtain⟨blk,hb,h⟩:=Option.bind_eq_some_iff.1 h
  split at h
  ·rename_i hle
   injection h with h;subst h
   have hlen:((blk.rows.drop off).take len).length=len:=by simp;omega
   obtain⟨ad,cap,rfl,hcase⟩:=hv.os_inv (hm.live hb)
   rw[hlen]
   rcases hcase with⟨_,rfl,rfl⟩|⟨g,o,k',sz,hat,hlc,hmm⟩
   ·exact⟨ad,0,fun _=>undef,rfl,Nat.le_refl _,fun hne=>(hne (by simp)).elim,fun i j c hc=>by simp[qau]at hc⟩
   ·have hbk:=hm.blk b blk hb
    rw[hat]at hbk
    obtain⟨_,h1,h2,h3,h4,c,t,h5,h6,h7⟩:=hbk
    have hkk:k'=k:=by
     rcases hblk b off len blk rfl hb with h|h<;>omega
    subst hkk
    refine⟨ad,cap,fun i=>(c[o+off*k'+i]?).getD undef,rfl,hlc,fun hne=>?_,fun i j d hd=>?_⟩
    ·have hpos:0<len:=by
      rcases Nat.eq_zero_or_pos len with h|h
      ·subst h;exact(hne (by simp)).elim
      ·exact h
     obtain⟨rfl,hsz⟩:=hmm (by omega)
     refine⟨g,_,rfl,fun i hi=>?_⟩
     have hb2:(off+len)*k'≤blk.rows.length*k':=Nat.mul_le_mul_right k' hle
     rw[Nat.add_mul]at hb2
     simp[World.cell?,h5,Array.getElem?_eq_getElem (show o+off*k'+i<c.size by omega)]
    ·obtain⟨hi,hj⟩:=qge hr hd
     have hd':qau blk.rows (off+i) j=some d:=by
      unfold qau at hd ⊢
      rw[List.getElem?_take]at hd
      split at hd
      ·rw[List.getElem?_drop]at hd;exact hd
      ·simp at hd
     obtain⟨u,hu,hr'⟩:=h7 _ _ _ hd'
     show Rep w pu ow ((c[o+off*k'+(i*k'+j)]?).getD undef) d
     rw[show o+off*k'+(i*k'+j)=o+(off+i)*k'+j by rw[Nat.add_mul];omega,hu]
     exact hr'
  ·cases h
 ·cases h
theorem qkF{ad:Option Addr}{n cap k:Nat}{F:Nat→Value}{W:World}(h:n≠0→∃g off,ad=some ⟨g,off,none⟩∧∀i,i<n*k→W.cell? ⟨g,off+i,none⟩=some (F i)):
  (Builtin.firstCells k n (.slice ad n cap)).run P W=.ok ((List.range (n*k)).map F).toArray W:=by
 by_cases hn:n=0
 ·subst hn
  cases ad<;>simp[Builtin.firstCells,loadCells,loadCellsFrom]
 ·obtain⟨g,off,rfl,hc⟩:=h hn
  simp only[Builtin.firstCells]
  exact run_loadCells W _ _ F fun j hj=>by rw[Addr.add_spotless];exact hc j hj
theorem qf0{t ty e:TypeId}{i:TypeInfo}(ht:P.underlying t=some (.slice e))(hi:P.info? e=some i){bs ad:Option Addr}{n m cap cx:Nat}{F:Nat→Value}(hroom:n+m≤cap)
  (hx:m≠0→∃g off,ad=some ⟨g,off,none⟩∧∀j,j<m*i.size→w.cell? ⟨g,off+j,none⟩=some (F j)) {W':World}
  (hst:(if let some a:=bs then storeCells (a.add (n*i.size)) ((List.range (m*i.size)).map F)else pure ():Sem Unit).run P w=.ok () W'):
  (Builtin.append_ #[t,t] ty #[.slice bs n cap,.slice ad m cx]).run P w=.ok (.slice bs (n+m) cap) W':=by
 have hf:=qkF (P:=P) (k:=i.size) (cap:=cx) hx
 cases bs with
 |none=>
  simp at hst
  subst hst
  simp[Builtin.append_,run_underlying ht,sizeOf,typeInfo,hi,Builtin.lenOf,hroom,hf]
 |some a=>
  simp at hst
  simp[Builtin.append_,run_underlying ht,sizeOf,typeInfo,hi,Builtin.lenOf,hroom,hf,hst]
theorem qjZ{t ty e:TypeId}{i:TypeInfo}{z:Value}(ht:P.underlying t=some (.slice e))(hi:P.info? e=some i)(hz:i.zero=some z){bs ad:Option Addr}{n m cap cx:Nat}{F G:Nat→Value}(hroom:cap<n+m)
  (hs:n≠0→∃g off,bs=some ⟨g,off,none⟩∧∀j,j<n*i.size→w.cell? ⟨g,off+j,none⟩=some (G j))
  (hx:m≠0→∃g off,ad=some ⟨g,off,none⟩∧∀j,j<m*i.size→w.cell? ⟨g,off+j,none⟩=some (F j))
  (h63:n+m≤9223372036854775807) (hfit:Builtin.nextslicecap (n+m) cap*i.bytes≤281474976710656):
  (Builtin.append_ #[t,t] ty #[.slice bs n cap,.slice ad m cx]).run P w=
   .ok (.slice (some ⟨w.heap.size,0,none⟩) (n+m) (grownCap w (n+m) cap e))
    (w.drew.alloc (.cells (((List.range (n*i.size)).map G).toArray++((List.range (m*i.size)).map F).toArray++Builtin.zeroCells z.cells (grownCap w (n+m) cap e-(n+m))) e)):=by
 have hn:¬(n+m≤cap):=by omega
 have h63':¬(9223372036854775807<((n:Int)+(m:Int))):=by omega
 have h48':¬(281474976710656<Builtin.nextslicecap (n+m) cap*i.bytes):=by omega
 have hf:=qkF (P:=P) (W:=w.drew) (k:=i.size) (cap:=cx) hx
 have hfo:=qkF (P:=P) (W:=w.drew) (k:=i.size) (cap:=cap) hs
 simp[Builtin.append_,run_underlying ht,sizeOf,typeInfo,zeroValue,hi,hz,Builtin.lenOf,hn,h63',h48',Question.forced,hf,hfo,newRow,grownCap]
 congr 2
 apply Array.ext'
 simp[List.append_assoc]
theorem qnz{xs ys:List (List D)}{i j:Nat}{d:D}(h:qau (xs++ys) i j=some d):qau xs i j=some d∨(xs.length≤i∧qau ys (i-xs.length) j=some d):=by
 unfold qau at*
 rw[List.getElem?_append]at h
 split at h
 ·exact .inl h
 ·rename_i hi;exact .inr ⟨by omega,h⟩
structure Appended(base:Nat)(w w':World)(pu:Nat→Prop)(ow:Nat→Ow)(ds:D)(k:Nat)(rows:List (List D))(o:Ow)(row:Option Nat)(v:Value):Prop where
 below:Below base w w'
 size:w.heap.size≤w'.heap.size
 keep:∀g,(∀x,row=some x→g≠x)→g<w.heap.size→w'.heap[g]? =w.heap[g]?
 rowAt:∀x,row=some x→∃b off len a k sz,ds=D.os b off len∧ow b=Ow.lies x a k sz
 place:∀g a k sz,o=Ow.lies g a k sz→(g=w.heap.size∧row=none)∨row=some g
 live:o≠Ow.dead∧o≠Ow.pending
 val:∃ad cap,v=Value.slice ad rows.length cap∧((o=Ow.empty∧rows.length=0∧cap=0)∨∃g a sz,o=Ow.lies g a k sz∧rows.length≤cap∧(0<cap→ad=some ⟨g,a,none⟩∧a+cap*k≤sz))
 content:match o with
  |.lies g a k' sz=>k'=k∧(∀r∈rows,r.length=k)∧a+rows.length*k≤sz∧∃c t,w'.heap[g]? =some (.cells c t (0,0))∧c.size=sz∧∀(i j:Nat) (d:D),qau rows i j=some d→∃v,c[a+i*k+j]? =some v∧Rep w pu ow v d
  |.mp _=>False
  |_=>rows=[]
theorem Appended.placeO{base:Nat}{w w':World}{pu:Nat→Prop}{ow:Nat→Ow}{ds:D}{k:Nat}{rows:List (List D)}{o:Ow}{row:Option Nat}{v:Value}(h:Appended base w w' pu ow ds k rows o row v)(g:Nat)(hg:o.on g):(g=w.heap.size∧row=none)∨row=some g:=by
 cases o with
 |lies g' a k sz=>cases hg;exact h.place _ _ _ _ rfl
 |mp g'=>exact h.content.elim
 |_=>exact hg.elim
theorem qeh{n i:Nat}{F:Nat→Value}(h:i<n):((List.range n).map F)[i]? =some (F i):=by
 rw[List.getElem?_map,List.getElem?_range h];rfl
theorem qkG(hm:Mem base w pu ow hp)(hbase:base≤w.heap.size){t ty e:TypeId}(ht:P.underlying t=some (.slice e)){vs vx:Value}{ds dx:D}{old new:List (List D)}(hvs:Rep w pu ow vs ds)(hvx:Rep w pu ow vx dx)
  (ho:qaY hp ds=some old) (hn:qaY hp dx=some new) (hpos:0<P.cellsOf e) (hrn:∀r∈new,r.length=P.cellsOf e) (hcn:∀r∈new,∀c∈r,qhk c=true)
  (hbx:∀b off len blk,dx=.os b off len→hp b=some blk→blk.k=P.cellsOf e∨blk.k=0)
  (hbytes:(old.length+new.length)*P.bytesOf e≤140737488355328) (h63:old.length+new.length≤9223372036854775807) (hz:qjB P e=true)
  (hcase:(ds=.nilsl∧old=[])∨∃b off len blk,ds=.os b off len∧hp b=some blk∧(blk.k=P.cellsOf e∨blk.k=0)):
  ∃v w' o row,(Builtin.append_ #[t,t] ty #[vs,vx]).run P w=.ok v w'∧Appended base w w' pu ow ds (P.cellsOf e) (old++new) o row v:=by
 obtain⟨i,hi⟩:=qfC hpos
 have hcs:P.cellsOf e=i.size:=by simp[Program.cellsOf,hi]
 have hbs:P.bytesOf e=i.bytes:=by simp[Program.bytesOf,hi]
 unfold qjB at hz
 cases hzd:qjX P e with
 |none=>rw[hzd]at hz;cases hz
 |some zd=>
 rw[hzd]at hz
 simp only[Bool.and_eq_true,beq_iff_eq]at hz
 obtain⟨i',z,hi',hzi,rfl⟩:=qeg hzd
 rw[hi]at hi';injection hi' with hi';subst hi'
 have hzs:z.cells.size=i.size:=by rw[(qcR (qhm w pu ow z) hz.1).1,hz.2,hcs]
 have hro:∀r∈old,r.length=P.cellsOf e:=by
  rcases hcase with⟨_,rfl⟩|⟨b,off,len,blk,rfl,hb,hk⟩
  ·simp
  ·unfold qaY at ho
   simp only[hb,Option.bind_some]at ho
   split at ho
   ·injection ho with ho;subst ho
    intro r hr
    have hr':=List.mem_of_mem_drop (List.mem_of_mem_take hr)
    have hbk:=hm.blk b blk hb
    cases hob:ow b with
    |dead=>exact(hm.live hb hob).elim
    |pending=>
     cases hvs with
     |pure _ _ h=>cases h
     |osd _ _ _ _ _ _ h=>rw[hob]at h;cases h
     |ose _ _ _ h=>rw[hob]at h;cases h
     |osa _ _ _ _ _ _ _ _ _ h=>rw[hob]at h;cases h
    |empty=>rw[hob]at hbk;rw[hbk.2]at hr';cases hr'
    |mp g=>
     cases hvs with
     |pure _ _ h=>cases h
     |osd _ _ _ _ _ _ h=>rw[hob]at h;cases h
     |ose _ _ _ h=>rw[hob]at h;cases h
     |osa _ _ _ _ _ _ _ _ _ h=>rw[hob]at h;cases h
    |lies g a k sz=>
     rw[hob]at hbk
     obtain⟨_,h1,h2,h3,_⟩:=hbk
     rw[h3 r hr']
     rcases hk with hk|hk<;>omega
   ·cases ho
 obtain⟨as,caps,G,hvs',hlc,hgs,hGs⟩:=qiW (k:=P.cellsOf e) hm hpos hro hvs (fun b off len blk hd hb=>by
  rcases hcase with⟨h,_⟩|⟨b',off',len',blk',h,hb',hk⟩
  ·rw[h]at hd;cases hd
  ·rw[h]at hd;cases hd;rw[hb']at hb;injection hb with hb;subst hb;exact hk) ho
 obtain⟨ax,capx,F,hvx',hlx,hgx,hFx⟩:=qiW (k:=P.cellsOf e) hm hpos hrn hvx hbx hn
 have hall:∀r∈old++new,r.length=P.cellsOf e:=fun r hr=>by
  rcases List.mem_append.1 hr with h|h
  ·exact hro r h
  ·exact hrn r h
 have hs':old.length≠0→∃g off,as=some ⟨g,off,none⟩∧∀j,j<old.length*i.size→w.cell? ⟨g,off+j,none⟩=some (G j):=fun hne=>by
  rw[←hcs];exact hgs (by intro h;apply hne;rw[h];rfl)
 have hx':new.length≠0→∃g off,ax=some ⟨g,off,none⟩∧∀j,j<new.length*i.size→w.cell? ⟨g,off+j,none⟩=some (F j):=fun hne=>by
  rw[←hcs];exact hgx (by intro h;apply hne;rw[h];rfl)
 have hcell:∀(g a:Nat) (c:Array Value),(∀x,x<old.length*i.size→c[a+x]? =some (G x))→(∀x,x<new.length*i.size→c[a+old.length*i.size+x]? =some (F x))→
   ∀(r j:Nat) (d:D),qau (old++new) r j=some d→∃v,c[a+r*P.cellsOf e+j]? =some v∧Rep w pu ow v d:=by
  intro g a c hG hF r j d hd
  obtain⟨_,hj⟩:=qge hall hd
  rcases qnz hd with hd|⟨hle,hd⟩
  ·obtain⟨hr,_⟩:=qge hro hd
   exact⟨_,by rw[Nat.add_assoc];exact hG _ (by rw[←hcs];exact qkE hr hj),hGs r j d hd⟩
  ·obtain⟨hr,_⟩:=qge hrn hd
   refine⟨_,?_,hFx _ j d hd⟩
   rw[←hF _ (by rw[←hcs];exact qkE hr hj),hcs]
   have hrr:r=old.length+(r-old.length):=by omega
   congr 1
   conv=>lhs;rw[hrr]
   rw[Nat.add_mul];omega
 by_cases hroom:old.length+new.length≤caps
 ·rcases Nat.eq_zero_or_pos caps with h0|h0
  ·subst h0
   have ho0:old=[]:=List.eq_nil_of_length_eq_zero (by omega)
   have hn0:new=[]:=List.eq_nil_of_length_eq_zero (by omega)
   subst ho0 hn0
   have hrun:=qf0 (P:=P) (w:=w) (ty:=ty) (bs:=as) (cx:=capx) ht hi hroom hx' (W':=w) (by cases as<;>simp[storeCells])
   simp only[List.length_nil]at hvs' hvx' hrun
   rw[←hvs',←hvx']at hrun
   exact⟨_,w,.empty,none,hrun,Below.refl _ _,Nat.le_refl _,fun _ _ _=>rfl,fun x h=>(by cases h),fun g a k sz h=>(by cases h),⟨by simp,by simp⟩,⟨as,0,hvs',.inl ⟨rfl,rfl,rfl⟩⟩,rfl⟩
  ·rcases hcase with⟨rfl,rfl⟩|⟨b,off,len,blk,rfl,hb,hk⟩
   ·have:=hvs.nilsl_inv
    rw[hvs']at this
    injection this with _ _ h3
    omega
   ·obtain⟨a',cap',he,hc⟩:=hvs.os_inv (hm.live hb)
    rw[hvs']at he
    injection he with h1 h2 h3
    subst h1 h3
    rcases hc with⟨_,_,hcap⟩|⟨g,o,k,sz,hat,hlc',hmm⟩
    ·omega
    ·obtain⟨rfl,hsz⟩:=hmm h0
     have hbk:=hm.blk b blk hb
     rw[hat]at hbk
     obtain⟨_,hkk,hk0,h3,h4,c,ct,h5,h6,h7⟩:=hbk
     have hke:k=P.cellsOf e:=by rcases hk with hk|hk<;>omega
     subst hke
     have hfit:o+off*P.cellsOf e+(old.length*i.size+new.length*i.size)≤sz:=by
      have:=Nat.mul_le_mul_right (P.cellsOf e) hroom
      rw[Nat.add_mul]at this hsz
      rw[←hcs]
      omega
     have hone:∀v∈(List.range (new.length*i.size)).map F,v.oneCell'=true:=by
      intro v hv
      obtain⟨x,hx,rfl⟩:=List.mem_map.1 hv
      rw[List.mem_range,←hcs]at hx
      have hq:x/P.cellsOf e<new.length:=Nat.div_lt_of_lt_mul (by rw[Nat.mul_comm];exact hx)
      have hmod:=Nat.mod_lt x hpos
      have hrow:=hrn _ (List.getElem_mem hq)
      have hd:qau new (x/P.cellsOf e) (x%P.cellsOf e)=some ((new[x/P.cellsOf e]'hq)[x%P.cellsOf e]'(by omega)):=by
       simp[qau,List.getElem?_eq_getElem hq,List.getElem?_eq_getElem (show x%P.cellsOf e<(new[x/P.cellsOf e]'hq).length by omega)]
      have:=hFx _ _ _ hd
      rw[Nat.mul_comm,Nat.div_add_mod]at this
      exact qkD this (hcn _ (List.getElem_mem hq) _ (List.getElem_mem _))
     have hrun0:=run_storeCells_at (P:=P) g (o+off*P.cellsOf e+old.length*i.size) ct ((List.range (new.length*i.size)).map F) 0 c w h5 (by simp;omega) hone
     have hspl:(c.toList.take (o+off*P.cellsOf e+old.length*i.size+0)++(List.range (new.length*i.size)).map F++c.toList.drop (o+off*P.cellsOf e+old.length*i.size+0+((List.range (new.length*i.size)).map F).length))=qbo c.toList (o+off*P.cellsOf e+old.length*i.size) ((List.range (new.length*i.size)).map F):=by simp[qbo]
     rw[hspl]at hrun0
     have hll:o+off*P.cellsOf e+old.length*i.size+((List.range (new.length*i.size)).map F).length≤c.toList.length:=by simp;omega
     have hrun:=qf0 (P:=P) (w:=w) (ty:=ty) (bs:=some ⟨g,o+off*P.cellsOf e,none⟩) (cx:=capx) ht hi hroom hx' (by simp only[Addr.add_spotless];exact hrun0)
     rw[←hvs',←hvx']at hrun
     refine⟨_,_,.lies g (o+off*P.cellsOf e) (P.cellsOf e) sz,some g,hrun,qfD (Below.refl _ _) (hm.own b _ _ _ _ hat).1 _,by simp,fun g' hg' _=>setRow_other w g g' _ (hg' g rfl),fun x h=>(by injection h with h;subst h;exact⟨b,off,len,o,_,sz,rfl,hat⟩),
      fun g' a k sz' h=>(by injection h with h;exact .inr (by rw[h])),⟨by simp,by simp⟩,⟨_,caps,by rw[List.length_append],.inr ⟨g,_,sz,rfl,by rw[List.length_append];exact hroom,fun _=>⟨rfl,?_⟩⟩⟩,?_⟩
     ·rw[Nat.add_mul]at hsz;omega
     ·refine⟨rfl,hall,?_,_,ct,setRow_heap w g c _ ct _ h5,?_,hcell g _ _ (fun x hx=>?_) (fun x hx=>?_)⟩
      ·rw[List.length_append,Nat.add_mul,hcs];rw[hcs]at hfit;exact hfit
      ·rw[List.size_toArray,qcS hll];simp[h6]
      ·rw[List.getElem?_toArray,qc3 hll,if_neg (by omega),Array.getElem?_toList]
       obtain⟨g2,off2,he2,hc2⟩:=hs' (by intro h;rw[h]at hx;simp at hx)
       injection he2 with he2
       injection he2 with e1 e2
       subst e1 e2
       have:=hc2 x hx
       simpa[World.cell?,h5]using this
      ·rw[List.getElem?_toArray,qc3 hll,if_pos (by simp;omega),←qeh (F:=F) hx]
       congr 1
       omega
 ·have hrun:=qjZ (P:=P) (w:=w) (ty:=ty) (cx:=capx) ht hi hzi (Nat.lt_of_not_le hroom) hs' hx' h63 (growslice_fits (Nat.lt_of_not_le hroom) (by rw[←hbs];exact hbytes))
  rw[←hvs',←hvx']at hrun
  have hge:=grownCap_ge w (old.length+new.length) caps e
  generalize hgc:grownCap w (old.length+new.length) caps e=gc at*
  have hsize:(((List.range (old.length*i.size)).map G).toArray++((List.range (new.length*i.size)).map F).toArray++Builtin.zeroCells z.cells (gc-(old.length+new.length))).size=gc*i.size:=by
   simp only[Array.size_append,List.size_toArray,List.length_map,List.length_range,size_zeroCells,hzs,←Nat.add_mul]
   congr 1
   omega
  have hle:old.length*i.size+new.length*i.size≤gc*i.size:=by rw[←Nat.add_mul];exact Nat.mul_le_mul_right _ hge
  refine⟨_,_,.lies w.heap.size 0 (P.cellsOf e) (gc*i.size),none,hrun,((Below.refl _ _).drew.alloc hbase _),by simp,fun g _ hg=>Below.heap_alloc w.drew _ g hg,fun x h=>(by cases h),
   fun g a k sz h=>(by injection h with h;exact .inl ⟨h.symm,rfl⟩),⟨by simp,by simp⟩,⟨_,gc,by rw[List.length_append],.inr ⟨w.heap.size,0,_,rfl,by rw[List.length_append];exact hge,fun _=>⟨rfl,by rw[hcs];omega⟩⟩⟩,?_⟩
  refine⟨rfl,hall,by rw[List.length_append,Nat.add_mul,hcs];omega,_,e,heap_alloc_new w.drew _,hsize,hcell 0 0 _ (fun x hx=>?_) (fun x hx=>?_)⟩
  ·rw[Nat.zero_add,Array.getElem?_append_left (by simp;omega),Array.getElem?_append_left (by simpa using hx),List.getElem?_toArray,qeh hx]
  ·rw[Nat.zero_add,Array.getElem?_append_left (by simp;omega),Array.getElem?_append_right (by simp),List.getElem?_toArray,←qeh (F:=F) hx]
   congr 1
   simp
end
mutual
def qdi:D→Bool
 |.os .. =>false
 |.op .. =>false
 |.om _=>false
 |.agg cs=>qbV cs
 |.tup cs=>qbV cs
 |.clo _ xs ys=>qbV xs&&qbV ys
 |.iface _ d=>qdi d
 |_=>true
def qbV:List D→Bool
 |[]=>true
 |d::ds=>qdi d&&qbV ds
end
mutual
def pur(hp:Nat→Option Blk):Nat→D→Option D
 |0,_=>none
 |n+1,d=>
  match d with
  |.nilsl=>some (.sl [])
  |.os b off len=>(hp b).bind fun blk=>if off+len≤blk.rows.length then(if blk.flat then some ((blk.rows.drop off).take len)else qqJ hp n ((blk.rows.drop off).take len)).map .sl else none
  |.op b row off=>(hp b).bind fun blk=>if row<blk.rows.length then(if blk.flat then some ((qb6 blk.rows row).drop off)else qbX hp n ((qb6 blk.rows row).drop off)).map .ptr else none
  |.agg cs=>(qbX hp n cs).map .agg
  |.tup cs=>(qbX hp n cs).map .tup
  |.clo fn xs ys=>(qbX hp n xs).bind fun xs'=>(qbX hp n ys).map fun ys'=>.clo fn xs' ys'
  |.iface t d=>(pur hp n d).map (.iface t)
  |.fr .. =>none
  |.om _=>none
  |d=>some d
def qbX(hp:Nat→Option Blk):Nat→List D→Option (List D)
 |0,_=>none
 |_+1,[]=>some []
 |n+1,d::ds=>(pur hp n d).bind fun d'=>(qbX hp n ds).map (d':: ·)
def qqJ(hp:Nat→Option Blk):Nat→List (List D)→Option (List (List D))
 |0,_=>none
 |_+1,[]=>some []
 |n+1,r::rs=>(qbX hp n r).bind fun r'=>(qqJ hp n rs).map (r':: ·)
end
section
variable {P:Program}{w w':World}{pu Z:Nat→Prop}{ow:Nat→Ow}{base:Nat}{hp:Nat→Option Blk}
theorem qkH:∀{ds:List D},qbV ds=true→∀(i:Nat) (d:D),ds[i]? =some d→qdi d=true
 |[],_,i,d,h=>by simp at h
 |e::ds,hm,i,d,h=>by
  simp only[qbV,Bool.and_eq_true]at hm
  cases i with
  |zero=>simp at h;subst h;exact hm.1
  |succ i=>exact qkH hm.2 i d (by simpa using h)
theorem RepP.zone{v:Value}{d:D}(h:RepP w pu v d)(hz:∀g,pu g→Z g):RepP w Z v d:=h.mono fun g hg=>⟨hz g hg,rfl⟩
theorem qhW{v:Value}{d:D}(h:Rep w pu ow v d)(hl:qkw d=true):RepP w pu v d:=by
 cases h with
 |pure _ _ h=>exact h
 |_=>cases hl
theorem qfG:∀(n:Nat) (ds ds':List D),qbX hp n ds=some ds'→ds'.length=ds.length∧∀(i:Nat) (d':D),ds'[i]? =some d'→∃d m,m<n∧ds[i]? =some d∧pur hp m d=some d'
 |0,ds,ds',h=>by simp[qbX]at h
 |n+1,[],ds',h=>by
  simp only[qbX,Option.some.injEq]at h
  subst h
  exact⟨rfl,fun i d' hi=>by simp at hi⟩
 |n+1,d::ds,ds',h=>by
  simp only[qbX]at h
  obtain⟨d',hd,h⟩:=Option.bind_eq_some_iff.1 h
  obtain⟨es,he,rfl⟩:=Option.map_eq_some_iff.1 h
  obtain⟨h1,h2⟩:=qfG n ds es he
  refine⟨by simp[h1],fun i e hi=>?_⟩
  cases i with
  |zero=>simp at hi;subst hi;exact⟨d,n,Nat.lt_succ_self n,rfl,hd⟩
  |succ i=>
   obtain⟨d2,m,hm,hd2,hp2⟩:=h2 i e (by simpa using hi)
   exact⟨d2,m,by omega,by simpa using hd2,hp2⟩
theorem qrT:∀(n:Nat) (ds ds':List (List D)),qqJ hp n ds=some ds'→ds'.length=ds.length∧∀(i:Nat) (d':List D),ds'[i]? =some d'→∃d m,m<n∧ds[i]? =some d∧qbX hp m d=some d'
 |0,ds,ds',h=>by simp[qqJ]at h
 |n+1,[],ds',h=>by
  simp only[qqJ,Option.some.injEq]at h
  subst h
  exact⟨rfl,fun i d' hi=>by simp at hi⟩
 |n+1,d::ds,ds',h=>by
  simp only[qqJ]at h
  obtain⟨d',hd,h⟩:=Option.bind_eq_some_iff.1 h
  obtain⟨es,he,rfl⟩:=Option.map_eq_some_iff.1 h
  obtain⟨h1,h2⟩:=qrT n ds es he
  refine⟨by simp[h1],fun i e hi=>?_⟩
  cases i with
  |zero=>simp at hi;subst hi;exact⟨d,n,Nat.lt_succ_self n,rfl,hd⟩
  |succ i=>
   obtain⟨d2,m,hm,hd2,hp2⟩:=h2 i e (by simpa using hi)
   exact⟨d2,m,by omega,by simpa using hd2,hp2⟩
theorem qoR{n:Nat}{rows rows':List (List D)}(h:qqJ hp n rows=some rows'):rows'.length=rows.length∧(∀k,(∀r∈rows,r.length=k)→∀r∈rows',r.length=k)∧
  ∀(i j:Nat) (d':D),qau rows' i j=some d'→∃d m,m<n∧qau rows i j=some d∧pur hp m d=some d':=by
 obtain⟨h1,h2⟩:=qrT n rows rows' h
 refine⟨h1,fun k hk r hr=>?_,fun i j d' hd=>?_⟩
 ·obtain⟨i,hi⟩:=List.mem_iff_getElem?.1 hr
  obtain⟨r2,m,_,hr2,hp2⟩:=h2 i r hi
  rw[(qfG m r2 r hp2).1]
  exact hk r2 (List.mem_of_getElem? hr2)
 ·unfold qau at hd
  obtain⟨r,hr,hj⟩:=Option.bind_eq_some_iff.1 hd
  obtain⟨r2,m,hm,hr2,hp2⟩:=h2 i r hr
  obtain⟨d,m2,hm2,hd2,hp3⟩:=(qfG m r2 r hp2).2 j d' hj
  exact⟨d,m2,by omega,by simp[qau,hr2,hd2],hp3⟩
theorem qA4{a:Option Addr}{cap:Nat}:RepP w Z (.slice a 0 cap) (.sl []):=
 RepP.sl (w:=w) (pu:=Z) a cap [] 0 (fun _ _=>undef) (Nat.zero_le _) (by simp) (fun h=>(h rfl).elim) (by simp[qau])
theorem qmB(hm:Mem base w pu ow hp)(hz:∀g,pu g→Z g):∀(n:Nat) (v:Value) (d d':D),Rep w pu ow v d→(qdi d=true∨∀b g o k sz,ow b=.lies g o k sz→Z g)→pur hp n d=some d'→RepP w Z v d':=by
 intro n
 induction n using Nat.strongRecOn with
 |_ n ih=>
  intro v d d' hv hp' h
  cases n with
  |zero=>simp[pur]at h
  |succ n=>
   have sub:∀(xs:Array Value) (cs cs':List D),(qbV cs=true∨∀b g o k sz,ow b=.lies g o k sz→Z g)→xs.size=cs.length→(∀(i:Nat) (v:Value) (d:D),xs[i]? =some v→cs[i]? =some d→Rep w pu ow v d)→
     qbX hp n cs=some cs'→xs.size=cs'.length∧∀(i:Nat) (v:Value) (d:D),xs[i]? =some v→cs'[i]? =some d→RepP w Z v d:=by
    intro xs cs cs' hpc hl hr hpur
    obtain⟨h1,h2⟩:=qfG n cs cs' hpur
    refine⟨by omega,fun i v d hv hd=>?_⟩
    obtain⟨e,m,hm',he,hpe⟩:=h2 i d hd
    exact ih m (by omega) v e d (hr i v e hv he) (hpc.imp (fun hh=>qkH hh i e he) fun hh=>hh) hpe
   unfold pur at h
   cases d with
   |nilsl=>
    injection h with h;subst h
    rw[hv.nilsl_inv]
    exact qA4
   |os b off len=>
    have hown:∀b g o k sz,ow b=.lies g o k sz→Z g:=hp'.resolve_left (by simp[qdi])
    simp only at h
    obtain⟨blk,hb,h⟩:=Option.bind_eq_some_iff.1 h
    split at h
    ·rename_i hle
     obtain⟨rows',hr,rfl⟩:=Option.map_eq_some_iff.1 h
     obtain⟨ad,cap,rfl,hcase⟩:=hv.os_inv (hm.live hb)
     have hlen:((blk.rows.drop off).take len).length=len:=by simp;omega
     have hbk:=hm.blk b blk hb
     have hrows:rows'.length=len∧(∀k,(∀r∈(blk.rows.drop off).take len,r.length=k)→∀r∈rows',r.length=k)∧
       ∀(i j:Nat) (d':D),qau rows' i j=some d'→∃d,qau ((blk.rows.drop off).take len) i j=some d∧∀u,Rep w pu ow u d→RepP w Z u d':=by
      split at hr
      ·rename_i hfl
       injection hr with hr;subst hr
       refine⟨hlen,fun k h=>h,fun i j d' hd=>⟨d',hd,fun u hu=>?_⟩⟩
       have hd2:qau blk.rows (off+i) j=some d':=by
        unfold qau at hd ⊢
        rw[List.getElem?_take]at hd
        split at hd
        ·rw[List.getElem?_drop]at hd;exact hd
        ·simp at hd
       exact(qhW hu (qgd (hbk.1 hfl) hd2)).zone hz
      ·obtain⟨h1,h2,h3⟩:=qoR hr
       refine⟨by omega,h2,fun i j d' hd=>?_⟩
       obtain⟨d,m,hm',hd2,hp2⟩:=h3 i j d' hd
       exact⟨d,hd2,fun u hu=>ih m (by omega) u d d' hu (.inr hown) hp2⟩
     obtain⟨hl',hk',hc'⟩:=hrows
     rcases hcase with⟨_,rfl,rfl⟩|⟨g,o,k,sz,hat,hlc,hmm⟩
     ·have:rows'=[]:=List.eq_nil_of_length_eq_zero hl'
      subst this
      exact qA4
     ·rw[hat]at hbk
      obtain⟨_,h1,h2,h3,h4,c,t,h5,h6,h7⟩:=hbk
      rw[←hl']
      refine .sl ad cap rows' k (fun i j=>(c[o+(off+i)*k+j]?).getD undef) (by omega) (hk' k fun r hr=>h3 r (List.mem_of_mem_drop (List.mem_of_mem_take hr))) (fun hne=>?_) (fun i j d hd=>?_)
      ·have hpos:0<len:=by
        rcases Nat.eq_zero_or_pos len with h|h
        ·exact(hne (List.eq_nil_of_length_eq_zero (by omega))).elim
        ·exact h
       obtain⟨rfl,hsz⟩:=hmm (by omega)
       refine⟨g,_,rfl,hown b _ _ _ _ hat,fun i j hi hj=>?_⟩
       have hb2:(off+i+1)*k≤blk.rows.length*k:=Nat.mul_le_mul_right k (by omega)
       rw[Nat.add_mul (off+i) 1,Nat.one_mul,Nat.add_mul off i]at hb2
       simp[World.cell?,h5,Nat.add_mul,←Nat.add_assoc,Array.getElem?_eq_getElem (show o+off*k+i*k+j<c.size by omega)]
      ·obtain⟨e,he,hre⟩:=hc' i j d hd
       have he2:qau blk.rows (off+i) j=some e:=by
        unfold qau at he ⊢
        rw[List.getElem?_take]at he
        split at he
        ·rw[List.getElem?_drop]at he;exact he
        ·simp at he
       obtain⟨u,hu,hru⟩:=h7 _ _ _ he2
       show RepP w Z ((c[o+(off+i)*k+j]?).getD undef) d
       rw[hu]
       exact hre u hru
    ·cases h
   |op b row off=>
    have hown:∀b g o k sz,ow b=.lies g o k sz→Z g:=hp'.resolve_left (by simp[qdi])
    simp only at h
    obtain⟨blk,hb,h⟩:=Option.bind_eq_some_iff.1 h
    split at h
    ·rename_i hrow
     obtain⟨cs',hr,rfl⟩:=Option.map_eq_some_iff.1 h
     obtain⟨g,o,k,sz,hat,rfl⟩:=hv.op_inv (hm.live hb)
     have hbk:=hm.blk b blk hb
     rw[hat]at hbk
     obtain⟨hfl0,h1,h2,h3,h4,c,t,h5,h6,h7⟩:=hbk
     have hcs:cs'.length=((qb6 blk.rows row).drop off).length∧∀(j:Nat) (d':D),cs'[j]? =some d'→∃d,((qb6 blk.rows row).drop off)[j]? =some d∧∀u,Rep w pu ow u d→RepP w Z u d':=by
      split at hr
      ·rename_i hfl
       injection hr with hr;subst hr
       refine⟨rfl,fun j d' hd=>⟨d',hd,fun u hu=>?_⟩⟩
       rw[List.getElem?_drop]at hd
       exact(qhW hu (qgd (hfl0 hfl) (qdA hd))).zone hz
      ·obtain⟨e1,e2⟩:=qfG n _ _ hr
       refine⟨e1,fun j d' hd=>?_⟩
       obtain⟨d,m,hm',hd2,hp2⟩:=e2 j d' hd
       exact⟨d,hd2,fun u hu=>ih m (by omega) u d d' hu (.inr hown) hp2⟩
     have hrl:=h3 _ (qfh hrow)
     have hfit:(row+1)*k≤blk.rows.length*k:=Nat.mul_le_mul_right k hrow
     rw[Nat.add_mul,Nat.one_mul]at hfit
     refine .ptr g _ cs' (fun j=>(c[o+row*k+off+j]?).getD undef) (hown b _ _ _ _ hat) (fun j hj=>?_) (fun j d hd=>?_)
     ·rw[hcs.1,List.length_drop,hrl]at hj
      simp[World.cell?,h5,Array.getElem?_eq_getElem (show o+row*k+off+j<c.size by omega)]
     ·obtain⟨e,he,hre⟩:=hcs.2 j d hd
      rw[List.getElem?_drop]at he
      obtain⟨u,hu,hru⟩:=h7 _ _ _ (qdA he)
      show RepP w Z ((c[o+row*k+off+j]?).getD undef) d
      rw[Nat.add_assoc (o+row*k),hu]
      exact hre u hru
    ·cases h
   |agg cs=>
    simp only at h
    obtain⟨cs',hc,rfl⟩:=Option.map_eq_some_iff.1 h
    obtain⟨vs,rfl,hl,hr⟩:=hv.agg_inv
    obtain⟨e1,e2⟩:=sub vs cs cs' (hp'.imp (fun hh=>by simpa[qdi]using hh) fun hh=>hh) hl hr hc
    exact .agg vs cs' e1 e2
   |tup cs=>
    simp only at h
    obtain⟨cs',hc,rfl⟩:=Option.map_eq_some_iff.1 h
    obtain⟨vs,rfl,hl,hr⟩:=hv.tup_inv
    obtain⟨e1,e2⟩:=sub vs cs cs' (hp'.imp (fun hh=>by simpa[qdi]using hh) fun hh=>hh) hl hr hc
    exact .tup vs cs' e1 e2
   |clo fn xs ys=>
    simp only at h
    obtain⟨xs',hx,h⟩:=Option.bind_eq_some_iff.1 h
    obtain⟨ys',hy,rfl⟩:=Option.map_eq_some_iff.1 h
    obtain⟨vx,vy,rfl,hlx,hrx,hly,hry⟩:=hv.clo_inv
    have hpp:(qbV xs=true∧qbV ys=true)∨∀b g o k sz,ow b=.lies g o k sz→Z g:=hp'.imp (fun hh=>by simpa[qdi]using hh) fun hh=>hh
    obtain⟨e1,e2⟩:=sub vx xs xs' (hpp.imp (fun hh=>hh.1) fun hh=>hh) hlx hrx hx
    obtain⟨e3,e4⟩:=sub vy ys ys' (hpp.imp (fun hh=>hh.2) fun hh=>hh) hly hry hy
    exact .clo fn vx vy xs' ys' e1 e2 e3 e4
   |iface t d=>
    simp only at h
    obtain⟨d2,hd,rfl⟩:=Option.map_eq_some_iff.1 h
    cases hv with
    |pure _ _ hv=>
     cases hv with
     |iface _ v _ hv=>exact .iface t v d2 (ih n (by omega) v d d2 (.pure _ _ hv) (hp'.imp (fun hh=>by simpa[qdi]using hh) fun hh=>hh) hd)
    |iface _ v _ hv=>exact .iface t v d2 (ih n (by omega) v d d2 hv (hp'.imp (fun hh=>by simpa[qdi]using hh) fun hh=>hh) hd)
   |fr k rows=>cases h
   |om b=>cases h
   |_=>
    injection h with h;subst h
    cases hv with
    |pure _ _ hv=>exact hv.zone hz
end
inductive Outc where
 |ret (r:D)
 |pan (d:D)
def adC(n:Nat):D→D×Hp
 |.fr k rows=>(.os n 0 rows.length,[(n,⟨k,qan rows,rows⟩)])
 |d=>(d,[])
def adL:Nat→List D→List D×Hp
 |_,[]=>([],[])
 |n,d::ds=>((adC n d).1::(adL (n+1) ds).1,(adC n d).2++(adL (n+1) ds).2)
def adE(n:Nat):D→D×Hp
 |.agg cs=>(.agg (adL n cs).1,(adL n cs).2)
 |d=>adC n d
def qdv:D→Nat
 |.agg cs=>cs.length
 |_=>1
def adT:Nat→List D→List D×Hp
 |_,[]=>([],[])
 |n,d::ds=>((adE n d).1::(adT (n+qdv d) ds).1,(adE n d).2++(adT (n+qdv d) ds).2)
def qaO(n:Nat):D→D×Hp
 |.tup ds=>(.tup (adT n ds).1,(adT n ds).2)
 |d=>adE n d
def qEi(base:Nat)(w:World)(Q:Nat→Prop)(v:Value)(r:D):Prop:=
 ∀n,∃ow:Nat→Ow,Mem base w Q ow (lkH (qaO n r).2)∧Rep w Q ow v (qaO n r).1∧∀b,lkH (qaO n r).2 b=none→ow b=.pending
def qDZ(P:Program)(f:FuncId):Prop:=∃fn,P.funcs[f]? =some fn∧fn.body.isNone=false∧(fn.name== "runtime.NumGoroutine")=false
def qvQ(w:World)(S:Nat→Prop)(out:Outc)(e:Ending)(w':World):Prop:=
 Below w.heap.size w w'∧∃Q:Nat→Prop,(∀g,Q g→g<w'.heap.size∧(S g∨w.heap.size≤g))∧
  match out with
  |.ret r=>∃v,e=.returned v∧qEi w.heap.size w' Q v r
  |.pan d=>∃v,e=.panicked [{v,recovered:=false}]∧RepP w' Q v d
def qvR(w:World)(S:Nat→Prop)(args:Array Value)(ds:List D):Prop:=
 args.size=ds.length∧∀(i:Nat) (v:Value) (d:D),args[i]? =some v→ds[i]? =some d→RepP w S v d
def Contract(P:Program)(f:FuncId)(ds:List D)(out:Outc):Prop:=
 qDZ P f∧∀(S:Nat→Prop) (w:World) (args:Array Value),(∀g,S g→g<w.heap.size)→qvR w S args ds→Calls P f args w (qvQ w S out)
def qa0:D→Bool
 |.undef|.skip|.int .. |.bool _|.str _|.float .. |.nilptr|.nilfunc|.nilif=>true
 |_=>false
def qey(rows:List (List D)):Bool:=rows.all fun r=>r.all qa0
def qqK:D→Bool
 |.fr _ rows=>qey rows
 |d=>qa0 d
def qj0:D→Bool
 |.agg cs=>cs.all qqK
 |d=>qqK d
def qbY:D→Bool
 |.tup ds=>ds.all qj0
 |d=>qj0 d
mutual
def rf:D→Bool
 |.os .. =>true
 |.agg cs=>rfL cs
 |.tup cs=>rfL cs
 |d=>qa0 d
def rfL:List D→Bool
 |[]=>true
 |d::ds=>rf d&&rfL ds
end
section
variable {P:Program}{w w':World}{pu pu' Q:Nat→Prop}{ow ow':Nat→Ow}{base:Nat}{hp:Nat→Option Blk}
theorem qcn{v:Value}{d:D}(h:RepP w pu v d)(hs:qa0 d=true):RepP w pu' v d:=by
 cases h with
 |undef v=>exact .undef v
 |skip=>exact .skip
 |int k n=>exact .int k n
 |bool b=>exact .bool b
 |str s=>exact .str s
 |float k n=>exact .float k n
 |nilptr=>exact .nilptr
 |nilfunc=>exact .nilfunc
 |nilif=>exact .nilif
 |_=>cases hs
theorem qkI:∀{ds:List D},rfL ds=true→∀(i:Nat) (d:D),ds[i]? =some d→rf d=true
 |[],_,i,d,h=>by simp at h
 |e::ds,hm,i,d,h=>by
  simp only[rfL,Bool.and_eq_true]at hm
  cases i with
  |zero=>simp at h;subst h;exact hm.1
  |succ i=>exact qkI hm.2 i d (by simpa using h)
theorem RepP.rezone{v:Value}{d:D}(h:RepP w pu v d):rf d=true→RepP w pu' v d:=by
 induction h with
 |agg vs cs hl _ ih=>exact fun hr=>.agg vs cs hl fun i v d h1 h2=>ih i v d h1 h2 (qkI (by simpa[rf]using hr) i d h2)
 |tup vs cs hl _ ih=>exact fun hr=>.tup vs cs hl fun i v d h1 h2=>ih i v d h1 h2 (qkI (by simpa[rf]using hr) i d h2)
 |undef v=>exact fun _=>.undef v
 |skip=>exact fun _=>.skip
 |int k n=>exact fun _=>.int k n
 |bool b=>exact fun _=>.bool b
 |str s=>exact fun _=>.str s
 |float k n=>exact fun _=>.float k n
 |nilptr=>exact fun _=>.nilptr
 |nilfunc=>exact fun _=>.nilfunc
 |nilif=>exact fun _=>.nilif
 |sl=>intro hr;simp[rf,qa0]at hr
 |ptr=>intro hr;simp[rf,qa0]at hr
 |clo=>intro hr;simp[rf,qa0]at hr
 |iface=>intro hr;simp[rf,qa0]at hr
theorem Rep.rezone{v:Value}{d:D}(h:Rep w pu ow v d):rf d=true→Rep w pu' ow v d:=by
 induction h with
 |pure v d h=>exact fun hr=>.pure v d (h.rezone hr)
 |agg vs cs hl _ ih=>exact fun hr=>.agg vs cs hl fun i v d h1 h2=>ih i v d h1 h2 (qkI (by simpa[rf]using hr) i d h2)
 |tup vs cs hl _ ih=>exact fun hr=>.tup vs cs hl fun i v d h1 h2=>ih i v d h1 h2 (qkI (by simpa[rf]using hr) i d h2)
 |osd a n c b off len hb=>exact fun _=>.osd a n c b off len hb
 |ose a b off hb=>exact fun _=>.ose a b off hb
 |osa a cap b off len g o k sz hb hl hm=>exact fun _=>.osa a cap b off len g o k sz hb hl hm
 |clo=>intro hr;simp[rf,qa0]at hr
 |iface=>intro hr;simp[rf,qa0]at hr
 |nilsl=>intro hr;simp[rf,qa0]at hr
 |opd=>intro hr;simp[rf,qa0]at hr
 |opa=>intro hr;simp[rf,qa0]at hr
 |omd=>intro hr;simp[rf,qa0]at hr
 |oma=>intro hr;simp[rf,qa0]at hr
theorem qzb{d:D}(h:qa0 d=true):rf d=true:=by
 cases d<;>first|rfl|cases h
theorem qkJ{n:Nat}{d:D}(h:qqK d=true):rf (adC n d).1=true∧∀x∈(adC n d).2,qey x.2.rows=true:=by
 cases d with
 |fr k rows=>exact⟨rfl,by simpa[adC,qqK]using h⟩
 |_=>exact⟨qzb h,by simp[adC]⟩
theorem qkK:∀{ds:List D} {n:Nat},ds.all qqK=true→rfL (adL n ds).1=true∧∀x∈(adL n ds).2,qey x.2.rows=true
 |[],_,_=>⟨rfl,by simp[adL]⟩
 |d::ds,n,h=>by
  simp only[List.all_cons,Bool.and_eq_true]at h
  obtain⟨a1,a2⟩:=qkJ (n:=n) h.1
  obtain⟨b1,b2⟩:=qkK (n:=n+1) h.2
  refine⟨by simp[adL,rfL,a1,b1],fun x hx=>?_⟩
  simp only[adL,List.mem_append]at hx
  rcases hx with hx|hx
  ·exact a2 x hx
  ·exact b2 x hx
theorem qkL{n:Nat}{d:D}(h:qj0 d=true):rf (adE n d).1=true∧∀x∈(adE n d).2,qey x.2.rows=true:=by
 cases d with
 |agg cs=>exact qkK (n:=n) h
 |_=>exact qkJ (n:=n) h
theorem qkM:∀{ds:List D} {n:Nat},ds.all qj0=true→rfL (adT n ds).1=true∧∀x∈(adT n ds).2,qey x.2.rows=true
 |[],_,_=>⟨rfl,by simp[adT]⟩
 |d::ds,n,h=>by
  simp only[List.all_cons,Bool.and_eq_true]at h
  obtain⟨a1,a2⟩:=qkL (n:=n) h.1
  obtain⟨b1,b2⟩:=qkM (n:=n+qdv d) h.2
  refine⟨by simp[adT,rfL,a1,b1],fun x hx=>?_⟩
  simp only[adT,List.mem_append]at hx
  rcases hx with hx|hx
  ·exact a2 x hx
  ·exact b2 x hx
theorem qnA{n:Nat}{d:D}(h:qbY d=true):rf (qaO n d).1=true∧∀x∈(qaO n d).2,qey x.2.rows=true:=by
 cases d with
 |tup ds=>exact qkM (n:=n) h
 |_=>exact qkL (n:=n) h
theorem qvS:∀{hp:Hp} {b:Nat} {blk:Blk},lkH hp b=some blk→∃x∈hp,x.2=blk
 |(k,d)::hp,b,blk,h=>by
  simp only[lkH]at h
  split at h
  ·injection h with h;exact⟨(k,d),by simp,h⟩
  ·obtain⟨x,hx,he⟩:=qvS h
   exact⟨x,by simp[hx],he⟩
theorem qa6(h1 h2:Hp)(b:Nat):lkH (h1++h2) b=(lkH h1 b).or (lkH h2 b):=by
 induction h1 with
 |nil=>rfl
 |cons x h1 ih=>
  obtain⟨k,d⟩:=x
  simp only[List.cons_append,lkH]
  split
  ·rfl
  ·exact ih
theorem qb5.rezone{o:Ow}{blk:Blk}(h:qb5 w pu ow o blk)(hs:qey blk.rows=true):qb5 w pu' ow' o blk:=by
 obtain⟨hf,h⟩:=h
 refine⟨hf,?_⟩
 cases o with
 |dead=>exact h
 |pending=>exact h
 |empty=>exact h
 |mp g=>exact h
 |lies g a k sz=>
  obtain⟨h1,h2,h3,h4,c,t,h5,h6,h7⟩:=h
  refine⟨h1,h2,h3,h4,c,t,h5,h6,fun i j d hd=>?_⟩
  obtain⟨v,hv,hr⟩:=h7 i j d hd
  have hsd:qa0 d=true:=by
   unfold qau at hd
   obtain⟨r,hr',hj⟩:=Option.bind_eq_some_iff.1 hd
   simp only[qey,List.all_eq_true]at hs
   exact hs r (List.mem_of_getElem? hr') d (List.mem_of_getElem? hj)
  refine⟨v,hv,?_⟩
  cases hr with
  |pure _ _ h=>exact .pure _ _ (qcn h hsd)
  |_=>cases hsd
theorem qzc(hm:Mem base w pu ow hp)(hbw:Below w.heap.size w w'){id:Nat}{r:D}(hid:∀b,(lkH (qaO id r).2 b).isSome→ow b=.pending){v:Value}
  (hbase:base≤w.heap.size) (hQ:∀g,Q g→g<w'.heap.size∧(pu g∨w.heap.size≤g)) (hr:qEi w.heap.size w' Q v r) {hq:Nat→Option Blk}
  (hhq:∀b,hq b=(lkH (qaO id r).2 b).or (hp b)):
  ∃pu' ow',Mem base w' pu' ow' hq∧Ext w pu ow w' pu' ow'∧Rep w' pu' ow' v (qaO id r).1∧(∀g,pu' g→pu g∨w.heap.size≤g)∧∀b,(lkH (qaO id r).2 b)=none→ow' b=ow b:=by
 obtain⟨owr,hmr,hrep,hpend⟩:=hr id
 let ow':Nat→Ow:=fun b=>if(lkH (qaO id r).2 b).isSome then owr b else ow b
 have hin:∀b,(lkH (qaO id r).2 b).isSome→ow' b=owr b:=fun b hb=>if_pos hb
 have hout:∀b,lkH (qaO id r).2 b=none→ow' b=ow b:=fun b hb=>if_neg (by rw[hb];simp)
 have split:∀b,(lkH (qaO id r).2 b).isSome=true∨lkH (qaO id r).2 b=none:=fun b=>by cases lkH (qaO id r).2 b<;>simp
 have e1:Ext w pu ow w' (fun g=>pu g∨Q g) ow':=⟨fun g hg=>⟨.inl hg,hbw.block g (hm.zone g hg)⟩,fun b=>by
  rcases split b with hb|hb
  ·exact .inl (hid b hb)
  ·exact .inr (.inl (hout b hb))⟩
 have e2:Ext w' Q owr w' (fun g=>pu g∨Q g) ow':=⟨fun g hg=>⟨.inr hg,rfl⟩,fun b=>by
  rcases split b with hb|hb
  ·exact .inr (.inl (hin b hb))
  ·exact .inl (hpend b hb)⟩
 refine⟨fun g=>pu g∨Q g,ow',⟨fun b blk hb=>?_,fun b hb=>?_,fun b b' g h h'=>?_,fun b g h=>?_,fun g hg=>?_⟩,e1,hrep.mono e2,fun g hg=>?_,hout⟩
 ·rcases split b with hs|hs
  ·rw[hin b hs]
   obtain⟨blk',hl⟩:=Option.isSome_iff_exists.1 hs
   rw[hhq,hl]at hb
   injection hb with hb;subst hb
   exact(hmr.blk b _ hl).mono e2 fun _ _=>rfl
  ·rw[hout b hs]
   rw[hhq,hs]at hb
   exact(hm.blk b blk (by simpa using hb)).mono e1 fun g hat=>hbw.block g (hm.on_lt hat)
 ·rcases split b with hs|hs
  ·rw[hhq]at hb
   obtain⟨blk',hl⟩:=Option.isSome_iff_exists.1 hs
   rw[hl]at hb;cases hb
  ·rw[hhq,hs]at hb
   rw[hout b hs];exact hm.none b (by simpa using hb)
 ·rcases split b with hi|hi
  ·rw[hin b hi]at h
   rcases split b' with hi'|hi'
   ·rw[hin b' hi']at h'
    exact hmr.injO b b' g h h'
   ·rw[hout b' hi']at h'
    have:=hm.on_lt h'
    have:=(hmr.ownO b g h).1
    omega
  ·rw[hout b hi]at h
   rcases split b' with hi'|hi'
   ·rw[hin b' hi']at h'
    have:=hm.on_lt h
    have:=(hmr.ownO b' g h').1
    omega
   ·rw[hout b' hi']at h'
    exact hm.injO b b' g h h'
 ·rcases split b with hi|hi
  ·rw[hin b hi]at h
   obtain⟨h1,h2⟩:=hmr.ownO b g h
   refine⟨by omega,fun hg=>?_⟩
   rcases hg with hg|hg
   ·have:=hm.zone g hg;omega
   ·exact h2 hg
  ·rw[hout b hi]at h
   obtain⟨h1,h2⟩:=hm.ownO b g h
   have hlt:=hm.on_lt h
   refine⟨h1,fun hg=>?_⟩
   rcases hg with hg|hg
   ·exact h2 hg
   ·rcases(hQ g hg).2 with hg'|hg'
    ·exact h2 hg'
    ·omega
 ·rcases hg with hg|hg
  ·exact Nat.lt_of_lt_of_le (hm.zone g hg) hbw.size
  ·exact(hQ g hg).1
 ·rcases hg with hg|hg
  ·exact .inl hg
  ·exact(hQ g hg).2
theorem qEi.rezone{v:Value}{r:D}(h:qEi base w Q v r)(hr:qbY r=true):qEi base w (fun _=>False) v r:=by
 intro n
 obtain⟨ow,hm,hrep,hp⟩:=h n
 obtain⟨h1,h2⟩:=qnA (n:=n) hr
 refine⟨ow,⟨fun b blk hb=>?_,hm.none,hm.injO,fun b g h=>⟨(hm.ownO b g h).1,fun hf=>hf⟩,fun g hg=>hg.elim⟩,hrep.rezone h1,hp⟩
 obtain⟨x,hx,rfl⟩:=qvS hb
 exact(hm.blk b _ hb).rezone (h2 x hx)
end
structure St where
 env:Env
 hp:Hp
 nx:Nat
 n:Nat
inductive X where
 |normal
 |exit (id:Nat)
 |ret
 |pan (d:D)
def qdU(dst:Option Tmp)(d:D)(env:Env):Env:=
 match dst with
 |some s=>(s,d)::env
 |none=>env
def qak(n:Nat):Option Tmp→Bool
 |some s=>decide (s<n)
 |none=>true
def qj1(b:Nat)(blk:Blk)(hp:Hp):Hp:=hp.map fun x=>if x.1=b then(x.1,blk)else x
def qg9(b:Nat)(hp:Hp):Hp:=hp.map fun x=>(x.1,pb b x.2)
def qqB:D→Nat
 |.tup ds=>(ds.map qdv).sum
 |d=>qdv d
def qmc:D→Bool
 |.iface _ (.agg cs)=>cs.all qa0
 |.iface _ d=>qa0 d
 |d=>qa0 d
def qB5:Outc→Bool
 |.ret r=>qbY r
 |.pan d=>qmc d
def qdV(all:List Oper)(env:Env)(j:Nat):Option (Option Bool):=
 match(all[j]?).bind (·.dst)with
 |some s=>
  match lkE env s with
  |.bool b=>some (some b)
  |.skip=>some none
  |_=>none
 |none=>some none
def St.put(st:St)(dst:Option Tmp)(d:D):St:={st with env:=qdU dst d st.env}
def qcJ(st:St)(dst:Option Tmp)(d:D)(env:Env)(hp:Hp)(K:X→St→Prop):Prop:=
 qak st.n dst=true∧K .normal {st with env:=qdU dst d env,hp:=hp}
def qf1(P:Program)(fd:D)(args:List D)(id:Nat)(dst:Option Tmp)(st:St)(K:X→St→Prop):Prop:=
 match fd with
 |.clo (.func f) xs ys=>
  ∃args' out,qbX (lkH st.hp) 64 (xs++args++ys)=some args'∧Contract P f args' out∧(qbV (xs++args++ys)=true∨qB5 out=true)∧
   match out with
   |.ret r=>qqB r≤32∧qcJ st dst (qaO id r).1 st.env ((qaO id r).2++st.hp) K
   |.pan d=>K (.pan d) st
 |_=>False
def qqL(ρ:Operand→D)(o:Op)(st:St)(K:X→St→Prop):Prop:=
 match o with
 |.panic x=>∃t d,ρ x=.iface t d∧qmc (.iface t d)=true∧K (.pan (.iface t d)) st
 |_=>False
def qap(P:Program)(o:Op)(id:Nat)(dst:Option Tmp)(st:St)(K:X→St→Prop):Prop:=
 match o with
 |.store t a x=>
  match qjA P (lkH st.hp) t (qac st.env a) (qac st.env x)with
  |some (b,blk)=>qcJ st dst .skip st.env (qj1 b blk st.hp) K
  |none=>False
 |.call {callee:=.value f,args:=args,..}=>qf1 P (qac st.env f) (args.toList.map (qac st.env)) id dst st K
 |.call {callee:=.builtin .append,args:=args,argTypes:=ts}=>
  match args.toList,ts.toList with
  |[s,x],[t,t']=>
   if t=t' then
    match qcN P (lkH st.hp) t (qac st.env s) (qac st.env x)with
    |some (none,blk)=>qcJ st dst (.os id 0 blk.rows.length) st.env ((id,blk)::st.hp) K
    |some (some b,blk)=>qcJ st dst (.os b 0 blk.rows.length) (qfZ b st.env) ((b,blk)::qg9 b st.hp) K
    |none=>False
   else False
  |_,_=>False
 |.build t parts=>
  match qjz P t (parts.toList.map fun(i,x)=>(i,qac st.env x))with
  |some d=>qcJ st dst d st.env st.hp K
  |none=>False
 |o=>
  match op0 P (qac st.env) (lkH st.hp) o with
  |some d=>qcJ st dst d st.env st.hp K
  |none=>
   match op1 P (qac st.env) o with
   |some (ptr,blk)=>qcJ st dst (qy3 id ptr blk) st.env ((id,blk)::st.hp) K
   |none=>
    match qmb P (qac st.env) (lkH st.hp) o with
    |some bs=>∀b∈bs,qcJ st dst (.bool b) st.env st.hp K
    |none=>qqL (qac st.env) o st K
def qaP(P:Program)(all:List Oper):List Oper→Nat→St→(X→St→Prop)→Prop
 |[],id,st,K=>K .normal {st with nx:=id}
 |o::rest,id,st,K=>
  let run:=qap P o.op id o.dst st fun x st'=>match x with
   |.normal=>qaP P all rest (id+32) st' K
   |x=>K x st'
  match o.guard with
  |none=>run
  |some (j,want)=>
   match qdV all st.env j with
   |some (some b)=>(b=want→run)∧(b=(!want)→qak st.n o.dst=true∧qaP P all rest (id+32) (st.put o.dst .skip) K)
   |some none=>qak st.n o.dst=true∧qaP P all rest (id+32) (st.put o.dst .skip) K
   |none=>False
structure Frm where
 z:Nat→Prop
 w:World
 pu:Nat→Prop
 ow:Nat→Ow
 df:List Deferred
instance:CoeFun Frm (fun _=>Nat→Prop):=⟨Frm.z⟩
def Frm.free(S:Frm):Prop:=∀b,S.ow b=.pending
def Kp(S:Frm)(w:World)(pu:Nat→Prop)(ow:Nat→Ow):Prop:=
 (∀g,S.pu g→pu g∧w.heap[g]? =S.w.heap[g]?)∧∀b,S.ow b=.pending∨ow b=S.ow b
theorem Kp.step{S:Frm}{w w':World}{pu pu':Nat→Prop}{ow ow':Nat→Ow}(h:Kp S w pu ow)(he:Ext w pu ow w' pu' ow')(ho:∀b,ow b=.pending∨ow' b=ow b):Kp S w' pu' ow':=by
 refine⟨fun g hg=>?_,fun b=>?_⟩
 ·obtain⟨h1,h2⟩:=h.1 g hg
  obtain⟨h3,h4⟩:=he.zone g h1
  exact⟨h3,h4.trans h2⟩
 ·rcases h.2 b with h1|h1
  ·exact .inl h1
  ·rcases ho b with h2|h2
   ·exact .inl (h1▸h2)
   ·exact .inr (h2.trans h1)
theorem Kp.ext{S:Frm}{w:World}{pu:Nat→Prop}{ow:Nat→Ow}(h:Kp S w pu ow):Ext S.w S.pu S.ow w pu ow:=⟨h.1,fun b=>(h.2 b).imp (fun h=>h) .inl⟩
def qg2:Op→Bool
 |.call {callee:=.builtin .append,..}=>false
 |_=>true
def qcb(w0:World)(S:Frm)(id:Nat)(st:St)(a:Act)(w:World):Prop:=
 ∃(pu:Nat→Prop) (ow:Nat→Ow),Mem w0.heap.size w pu ow (lkH st.hp)∧qfB w pu ow st.env a∧Below w0.heap.size w0 w∧(∀g,pu g→S g∨w0.heap.size≤g)∧
  (∀b,id≤b→ow b=.pending)∧a.tmps.size=st.n∧a.defers=S.df∧Kp S w pu ow
def qvT(w0:World)(S:Frm)(st:St)(a:Act)(d:D)(chain:List PanicEntry)(w:World):Prop:=
 Below w0.heap.size w0 w∧∃(Q:Nat→Prop) (v:Value),chain=[{v,recovered:=false}]∧(∀g,Q g→g<w.heap.size∧(S g∨w0.heap.size≤g))∧RepP w Q v d∧∃(pu:Nat→Prop) (ow:Nat→Ow),Mem w0.heap.size w pu ow (lkH st.hp)∧qfB w pu ow st.env a∧Kp S w pu ow
def qmd(w0:World)(S:Frm)(K:X→St→Prop):Exit→Act→World→Prop
 |.normal,a,w=>∃st,K .normal st∧qcb w0 S st.nx st a w
 |.exit id,a,w=>∃st,K (.exit id) st∧qcb w0 S st.nx st a w
 |.ret,a,w=>∃st,K .ret st∧qcb w0 S st.nx st a w
 |.panic chain,a,w=>∃d st,K (.pan d) st∧a.defers=S.df∧qvT w0 S st a d chain w
 |_,_,_=>False
section
variable {P:Program}{w w' w0:World}{pu pu' Q:Nat→Prop}{S:Frm}{ow ow':Nat→Ow}{base:Nat}{hp:Nat→Option Blk}
theorem qgf{a:Act}{s t:Nat}{v:Value}(h:s<a.tmps.size):(a.put (some s) v).tmps.getD t undef=if t=s then v else a.tmps.getD t undef:=by
 simp only[Act.put,Array.getD_eq_getD_getElem?,Array.getElem?_setIfInBounds]
 by_cases he:s=t
 ·subst he;simp[h]
 ·rw[if_neg he,if_neg (Ne.symm he)]
theorem qcX(a:Act)(dst:Option Tmp)(v:Value):(a.put dst v).tmps.size=a.tmps.size:=by
 cases dst<;>simp[Act.put]
theorem qbZ(a:Act)(dst:Option Tmp)(v:Value):(a.put dst v).defers=a.defers:=by
 cases dst<;>rfl
theorem qfB.put{env:Env}{a:Act}(h:qfB w pu ow env a){dst:Option Tmp}{v:Value}{d:D}(hd:qak a.tmps.size dst=true)(hv:Rep w pu ow v d):qfB w pu ow (qdU dst d env) (a.put dst v):=by
 intro s
 cases dst with
 |none=>exact h s
 |some t=>
  simp only[qak,decide_eq_true_eq]at hd
  rw[qgf hd]
  simp only[qdU,lkE]
  split
  ·exact hv
  ·exact h s
theorem qfB.mono{env:Env}{a:Act}(h:qfB w pu ow env a)(he:Ext w pu ow w' pu' ow'):qfB w' pu' ow' env a:=fun s=>(h s).mono he
theorem qfH(b:Nat)(blk:Blk):∀(hp:Hp) (c:Nat),lkH (qj1 b blk hp) c=if c=b∧(lkH hp c).isSome then some blk else lkH hp c
 |[],c=>by simp[qj1,lkH]
 |(k,x)::hp,c=>by
  have ih:=qfH b blk hp c
  unfold qj1 at ih
  simp only[qj1,List.map_cons,lkH]
  by_cases hk:k=b
  ·subst hk
   rw[if_pos rfl]
   by_cases hc:c=k
   ·subst hc;simp
   ·simp only[hc,false_and,if_false]at ih ⊢
    exact ih
  ·rw[if_neg hk]
   by_cases hc:c=k
   ·subst hc;simp[hk]
   ·simp only[hc,if_false]at ih ⊢
    exact ih
theorem qmC(b:Nat):∀(hp:Hp) (c:Nat),lkH (qg9 b hp) c=(lkH hp c).map (pb b)
 |[],c=>rfl
 |(k,x)::hp,c=>by
  have ih:=qmC b hp c
  unfold qg9 at ih
  simp only[qg9,List.map_cons,lkH]
  split
  ·rfl
  ·exact ih
theorem qoS:∀(ds:List D) (n b:Nat) (blk:Blk),lkH (adL n ds).2 b=some blk→n≤b∧b<n+ds.length
 |[],n,b,blk,h=>by simp[adL,lkH]at h
 |d::ds,n,b,blk,h=>by
  simp only[adL,qa6]at h
  cases hc:lkH (adC n d).2 b with
  |some blk'=>
   have:b=n:=by
    cases d<;>simp only[adC,lkH]at hc<;>first|cases hc|(split at hc;assumption;cases hc)
   simp only[List.length_cons]
   omega
  |none=>
   rw[hc]at h
   have:=qoS ds (n+1) b blk (by simpa using h)
   simp only[List.length_cons]
   omega
theorem qoT(d:D)(n b:Nat)(blk:Blk)(h:lkH (adE n d).2 b=some blk):n≤b∧b<n+qdv d:=by
 cases d with
 |agg cs=>exact qoS cs n b blk h
 |_=>
  simp only[adE,adC,lkH]at h
  first|cases h|(split at h;(simp only[qdv];omega);cases h)
theorem qkN:∀(ds:List D) (n b:Nat) (blk:Blk),lkH (adT n ds).2 b=some blk→n≤b∧b<n+(ds.map qdv).sum
 |[],n,b,blk,h=>by simp[adT,lkH]at h
 |d::ds,n,b,blk,h=>by
  simp only[adT,qa6]at h
  simp only[List.map_cons,List.sum_cons]
  cases hc:lkH (adE n d).2 b with
  |some blk'=>
   have:=qoT d n b blk' hc
   omega
  |none=>
   rw[hc]at h
   have:=qkN ds (n+qdv d) b blk (by simpa using h)
   omega
theorem qc4{r:D}{n b:Nat}(h:(lkH (qaO n r).2 b).isSome):n≤b∧b<n+qqB r:=by
 obtain⟨blk,h⟩:=Option.isSome_iff_exists.1 h
 cases r with
 |tup ds=>exact qkN ds n b blk h
 |_=>exact qoT _ n b blk h
theorem qiX{v:Value}{d:D}(h:RepP w pu v d)(hs:qmc d=true):RepP w pu' v d:=by
 unfold qmc at hs
 split at hs
 ·cases h with
  |iface _ v _ h=>
   refine .iface _ v _ ?_
   cases h with
   |agg vs _ hl h=>
    refine .agg vs _ hl fun i v d h1 h2=>qcn (h i v d h1 h2) ?_
    exact(List.all_eq_true.1 hs) d (List.mem_of_getElem? h2)
 ·cases h with
  |iface _ v _ h=>exact .iface _ v _ (qcn h hs)
 ·exact qcn h hs
end
section
variable {P:Program}{w w' w0:World}{pu pu' Q:Nat→Prop}{S:Frm}{ow ow':Nat→Ow}{base:Nat}{hp:Nat→Option Blk}
theorem qhX{f:FuncId}(hr:qDZ P f){ρv:Operand→Value}{c:Operand}{args:Array Operand}{ts:Array TypeId}{o:Oper}{xs ys:Array Value}(ho:o.op=.call {callee:=.value c,args:=args,argTypes:=ts})
  (hc:ρv c=.func (.func f) xs ys):(execOp ρv o).run P w=.ok (.enter f (xs++args.map ρv++ys)) w:=by
 obtain⟨fn,hf,hb,hn⟩:=hr
 obtain⟨dst,op,ty,pos,after,guard⟩:=o
 simp only at ho
 subst ho
 have hn':fn.name≠ "runtime.NumGoroutine" :=by simpa using hn
 have hb':fn.body≠none:=by intro h;rw[h]at hb;cases hb
 simp[execOp,resolve,hc,Deferred.ofValue,invoke,callFunc,hf,hb',hn']
theorem qj9{args:Array Value}{ds ds':List D}{Z:Nat→Prop}(hm:Mem base w pu ow hp)(hz:∀g,pu g→Z g)(hl:args.size=ds.length)(hr:∀(i:Nat) (v:Value) (d:D),args[i]? =some v→ds[i]? =some d→Rep w pu ow v d)
  (hp':qbV ds=true∨∀b g o k sz,ow b=.lies g o k sz→Z g) {n:Nat} (h:qbX hp n ds=some ds'):qvR w Z args ds':=by
 obtain⟨h1,h2⟩:=qfG n ds ds' h
 refine⟨by omega,fun i v d hv hd=>?_⟩
 obtain⟨e,m,_,he,hpe⟩:=h2 i d hd
 exact qmB hm hz m v e d (hr i v e hv he) (hp'.imp (fun hh=>qkH hh i e he) fun hh=>hh) hpe
theorem qvU{o:Oper}{f:Operand}{args:Array Operand}{ts:Array TypeId}{id:Nat}{st:St}{a:Act}{K:X→St→Prop}{N:Act→World→Prop}{R:Exit→Act→World→Prop}
  (ho:o.op=.call {callee:=.value f,args:=args,argTypes:=ts}) (hi:qcb w0 S id st a w) (h:qf1 P (qac st.env f) (args.toList.map (qac st.env)) id o.dst st K)
  (hN:∀st' a' w',K .normal st'→qcb w0 S (id+32) st' a' w'→N a' w') (hP:∀d chain w',K (.pan d) st→qvT w0 S st a d chain w'→R (.panic chain) a w'):o.wp P a w N R:=by
 obtain⟨pu,ow,hm,he,hb,hz,hid,hs,hd⟩:=hi
 unfold qf1 at h
 split at h
 ·rename_i g xs ys hfd
  obtain⟨args',out,hpur,hcon,hown,hout⟩:=h
  have hf:=he.eval f
  rw[hfd]at hf
  obtain⟨vx,vy,hfv,hlx,hrx,hly,hry⟩:=hf.clo_inv
  unfold Oper.wp
  rw[qhX hcon.1 ho hfv,Oper.upon_enter]
  have hargs:∀(i:Nat) (v:Value) (d:D),(vx++args.map a.eval++vy)[i]? =some v→(xs++args.toList.map (qac st.env)++ys)[i]? =some d→Rep w pu ow v d:=by
   intro i v d h1 h2
   rw[Array.getElem?_append,Array.getElem?_append]at h1
   rw[List.getElem?_append,List.getElem?_append]at h2
   simp only[Array.size_append,Array.size_map,List.length_append,List.length_map,Array.length_toList,hlx]at h1 h2
   split at h1
   ·rename_i hlt
    rw[if_pos hlt]at h2
    split at h1
    ·rename_i hlt2
     rw[if_pos hlt2]at h2
     exact hrx i v d h1 h2
    ·rename_i hlt2
     rw[if_neg hlt2]at h2
     rw[Array.getElem?_map]at h1
     rw[List.getElem?_map,Array.getElem?_toList]at h2
     obtain⟨x,hx,rfl⟩:=Option.map_eq_some_iff.1 h1
     rw[hx]at h2
     injection h2 with h2;subst h2
     exact he.eval x
   ·rename_i hlt
    rw[if_neg hlt]at h2
    exact hry _ v d h1 h2
  have hlen:(vx++args.map a.eval++vy).size=(xs++args.toList.map (qac st.env)++ys).length:=by simp[hlx,hly]
  rcases hown with hpure|hscal
  ·have ha:=qj9 hm (fun _ h=>h) hlen hargs (.inl hpure) hpur
   refine(hcon.2 pu w _ hm.zone ha).mono fun e w' ⟨hbw,Q,hQ,hres⟩=>?_
   cases out with
   |ret r=>
    obtain⟨v,rfl,hv⟩:=hres
    obtain⟨hw32,hok,hK⟩:=hout
    obtain⟨pu',ow',m1,m2,m3,m4,m5⟩:=qzc hm hbw (id:=id) (fun b hb=>hid b (qc4 hb).1) hb.size hQ hv (hq:=lkH ((qaO id r).2++st.hp)) (fun b=>qa6 _ _ b)
    have hstp:∀b,ow b=.pending∨ow' b=ow b:=fun b=>by
     cases hl:lkH (qaO id r).2 b with
     |none=>exact .inr (m5 b hl)
     |some blk=>exact .inl (hid b (qc4 (by rw[hl];rfl)).1)
    refine hN _ _ _ hK ⟨pu',ow',m1,(he.mono m2).put (by rw[hs];exact hok) m3,hb.trans (hbw.mono hb.size),fun g hg=>?_,fun b hb'=>?_,by rw[qcX];exact hs,by rw[qbZ];exact hd.1,hd.2.step m2 hstp⟩
    ·rcases m4 g hg with h|h
     ·exact hz g h
     ·exact .inr (Nat.le_trans hb.size h)
    ·rw[m5 b]
     ·exact hid b (by omega)
     ·cases hl:lkH (qaO id r).2 b with
      |none=>rfl
      |some blk=>
       have:=(qc4 (r:=r) (n:=id) (b:=b) (by rw[hl];rfl)).2
       omega
   |pan d=>
    obtain⟨v,rfl,hv⟩:=hres
    refine hP d _ _ hout ⟨hb.trans (hbw.mono hb.size),Q,v,rfl,fun g hg=>⟨(hQ g hg).1,?_⟩,hv,pu,ow,hm.grow hbw,he.mono (Ext.grow hm.zone hbw),hd.2.step (Ext.grow hm.zone hbw) fun _=>.inr rfl⟩
    rcases(hQ g hg).2 with h|h
    ·exact hz g h
    ·exact .inr (Nat.le_trans hb.size h)
  ·have ha:=qj9 (Z:=fun g=>g<w.heap.size) hm hm.zone hlen hargs (.inr fun b g o k sz h=>hm.at_lt h) hpur
   refine(hcon.2 _ w _ (fun g h=>h) ha).mono fun e w' ⟨hbw,Q,hQ,hres⟩=>?_
   cases out with
   |ret r=>
    obtain⟨v,rfl,hv⟩:=hres
    obtain⟨hw32,hok,hK⟩:=hout
    obtain⟨pu',ow',m1,m2,m3,m4,m5⟩:=qzc hm hbw (id:=id) (Q:=fun _=>False) (fun b hb=>hid b (qc4 hb).1) hb.size (fun g hg=>hg.elim) (hv.rezone hscal) (hq:=lkH ((qaO id r).2++st.hp)) (fun b=>qa6 _ _ b)
    have hstp:∀b,ow b=.pending∨ow' b=ow b:=fun b=>by
     cases hl:lkH (qaO id r).2 b with
     |none=>exact .inr (m5 b hl)
     |some blk=>exact .inl (hid b (qc4 (by rw[hl];rfl)).1)
    refine hN _ _ _ hK ⟨pu',ow',m1,(he.mono m2).put (by rw[hs];exact hok) m3,hb.trans (hbw.mono hb.size),fun g hg=>?_,fun b hb'=>?_,by rw[qcX];exact hs,by rw[qbZ];exact hd.1,hd.2.step m2 hstp⟩
    ·rcases m4 g hg with h|h
     ·exact hz g h
     ·exact .inr (Nat.le_trans hb.size h)
    ·rw[m5 b]
     ·exact hid b (by omega)
     ·cases hl:lkH (qaO id r).2 b with
      |none=>rfl
      |some blk=>
       have:=(qc4 (r:=r) (n:=id) (b:=b) (by rw[hl];rfl)).2
       omega
   |pan d=>
    obtain⟨v,rfl,hv⟩:=hres
    exact hP d _ _ hout ⟨hb.trans (hbw.mono hb.size),fun _=>False,v,rfl,fun g hg=>hg.elim,qiX hv hscal,pu,ow,hm.grow hbw,he.mono (Ext.grow hm.zone hbw),hd.2.step (Ext.grow hm.zone hbw) fun _=>.inr rfl⟩
 ·exact h.elim
theorem qnB{ρ:Operand→D}{o:Op}{ptr:Bool}{blk:Blk}(h:op1 P ρ o=some (ptr,blk)):blk.flat=true→qan blk.rows=true:=by
 unfold op1 at h
 split at h
 ·obtain⟨z,_,h⟩:=Option.bind_eq_some_iff.1 h
  split at h
  ·injection h with h;injection h with h1 h2;subst h2;exact fun h=>h
  ·cases h
 ·split at h
  ·injection h with h;injection h with h1 h2;subst h2;exact fun h=>h
  ·cases h
 ·split at h
  ·split at h
   ·split at h
    ·injection h with h;injection h with h1 h2;subst h2;exact fun _=>rfl
    ·cases h
   ·obtain⟨z,_,h⟩:=Option.bind_eq_some_iff.1 h
    split at h
    ·obtain⟨rows,_,h⟩:=Option.map_eq_some_iff.1 h
     injection h with h1 h2;subst h2;exact fun h=>h
    ·cases h
  ·cases h
 ·split at h
  ·obtain⟨z,_,h⟩:=Option.bind_eq_some_iff.1 h
   split at h
   ·injection h with h;injection h with h1 h2;subst h2
    intro h
    simp only[qan,List.all_cons,List.all_nil,Bool.and_true]at h
    simp[qan,h]
   ·cases h
  ·cases h
 ·cases h
theorem qmD{ds:D}{k:Nat}{rows:List (List D)}{o:Ow}{row:Option Nat}{v:Value}{b:Nat}(h:Appended base w w' pu ow ds k rows o row v):Rep w' pu (qjW ow b o) v (.os b 0 rows.length):=by
 obtain⟨ad,cap,rfl,hc⟩:=h.val
 rcases hc with⟨rfl,h0,rfl⟩|⟨g,a,sz,rfl,hle,hmm⟩
 ·rw[h0];exact .ose ad b 0 (qbO _ _ _)
 ·exact .osa ad cap b 0 _ g a k sz (qbO _ _ _) hle fun hc=>by
   obtain⟨h1,h2⟩:=hmm hc
   exact⟨by rw[h1];simp,by rw[Nat.zero_add];exact h2⟩
theorem qmE{ds:D}{k:Nat}{rows:List (List D)}{o:Ow}{row:Option Nat}{v:Value}{b:Nat}{fl:Bool}(h:Appended base w w' pu ow ds k rows o row v)(hk:0<k)(hfl:fl=true→qan rows=true)
  (hment:∀r∈rows,∀c∈r,∀v,Rep w pu ow v c→qep b c=false) (hz:∀g,pu g→w'.heap[g]? =w.heap[g]?):qb5 w' pu (qjW ow b o) o ⟨k,fl,rows⟩:=by
 refine⟨hfl,?_⟩
 have hc:=h.content
 cases o with
 |dead=>exact h.live.1 rfl
 |pending=>exact(h.live.2 rfl).elim
 |empty=>exact hc
 |mp g=>exact hc.elim
 |lies g a k' sz=>
  obtain⟨rfl,h2,h3,c,t,h5,h6,h7⟩:=hc
  refine⟨rfl,hk,h2,h3,c,t,h5,h6,fun i j d hd=>?_⟩
  obtain⟨u,hu,hr⟩:=h7 i j d hd
  have hmd:qep b d=false:=by
   unfold qau at hd
   obtain⟨r,hr',hj⟩:=Option.bind_eq_some_iff.1 hd
   exact hment r (List.mem_of_getElem? hr') d (List.mem_of_getElem? hj) u hr
  exact⟨u,hu,(hr.set_other hmd).mono ⟨fun g hg=>⟨hg,hz g hg⟩,fun _=>.inr (.inl rfl)⟩⟩
theorem qrU{b:Nat}:∀{ds:List D},(∀(i:Nat) (d:D),ds[i]? =some d→qep b d=false)→qiV b ds=false
 |[],_=>rfl
 |d::ds,h=>by
  simp only[qiV,Bool.or_eq_false_iff]
  exact⟨h 0 d rfl,qrU fun i e he=>h (i+1) e (by simpa using he)⟩
theorem qdW{b:Nat}{xs:Array Value}{cs:List D}(hl:xs.size=cs.length)(ih:∀(i:Nat) (v:Value) (d:D),xs[i]? =some v→cs[i]? =some d→qep b d=false):qiV b cs=false:=
 qrU fun i d hd=>by
  have hlt:=(List.getElem?_eq_some_iff.1 hd).1
  exact ih i _ d (Array.getElem?_eq_getElem (by omega)) hd
theorem qoU{v:Value}{d:D}{id:Nat}(h:Rep w pu ow v d)(hid:ow id=.pending):qep id d=false:=by
 induction h with
 |pure v d h=>
  induction h with
  |agg vs cs hl h ih=>simpa[qep]using qdW hl ih
  |tup vs cs hl h ih=>simpa[qep]using qdW hl ih
  |clo fn xs ys cs ds hx h hy h' ih ih'=>simp[qep,qdW hx ih,qdW hy ih']
  |iface t v d h ih=>simpa[qep]using ih
  |_=>rfl
 |agg vs cs hl _ ih=>simpa[qep]using qdW hl ih
 |tup vs cs hl _ ih=>simpa[qep]using qdW hl ih
 |clo fn xs ys cs ds hx _ hy _ ih ih'=>simp[qep,qdW hx ih,qdW hy ih']
 |iface t v d _ ih=>simpa[qep]using ih
 |nilsl=>rfl
 |osd a n c b off len hb=>simp only[qep,beq_eq_false_iff_ne];rintro rfl;rw[hid]at hb;cases hb
 |ose a b off hb=>simp only[qep,beq_eq_false_iff_ne];rintro rfl;rw[hid]at hb;cases hb
 |osa a cap b off len g o k sz hb hl hm'=>simp only[qep,beq_eq_false_iff_ne];rintro rfl;rw[hid]at hb;cases hb
 |opd a b row off hb=>simp only[qep,beq_eq_false_iff_ne];rintro rfl;rw[hid]at hb;cases hb
 |opa b row off g o k sz hb=>simp only[qep,beq_eq_false_iff_ne];rintro rfl;rw[hid]at hb;cases hb
 |omd r b hb=>simp only[qep,beq_eq_false_iff_ne];rintro rfl;rw[hid]at hb;cases hb
 |oma b g hb=>simp only[qep,beq_eq_false_iff_ne];rintro rfl;rw[hid]at hb;cases hb
theorem qeU{o:Oper}{id:Nat}{st:St}{a:Act}{K:X→St→Prop}{N:Act→World→Prop}{R:Exit→Act→World→Prop}{v:Value}{d:D}{hp':Hp}{ow':Nat→Ow}
  (hm:Mem w0.heap.size w' pu ow' (lkH hp')) (he:qfB w' pu ow' st.env a) (hb:Below w0.heap.size w0 w') (hz:∀g,pu g→S g∨w0.heap.size≤g) (hid:∀b,id+32≤b→ow' b=.pending) (hs:a.tmps.size=st.n) (hd:a.defers=S.df∧Kp S w' pu ow')
  (hrun:(execOp a.eval o).run P w=.ok (.value v) w') (hv:Rep w' pu ow' v d) (h:qcJ st o.dst d st.env hp' K)
  (hN:∀st' a' w',K .normal st'→qcb w0 S (id+32) st' a' w'→N a' w'):o.wp P a w N R:=by
 unfold Oper.wp
 rw[hrun,Oper.upon_value]
 exact hN _ _ _ h.2 ⟨pu,ow',hm,he.put (by rw[hs];exact h.1) hv,hb,hz,hid,by rw[qcX];exact hs,by rw[qbZ];exact hd.1,hd.2⟩
theorem qiY{o:Oper}{id:Nat}{st:St}{a:Act}{K:X→St→Prop}{N:Act→World→Prop}{R:Exit→Act→World→Prop}(hNA:S.free∨qg2 o.op=true)(hi:qcb w0 S id st a w)(h:qap P o.op id o.dst st K)
  (hN:∀st' a' w',K .normal st'→qcb w0 S (id+32) st' a' w'→N a' w') (hP:∀d chain w',K (.pan d) st→qvT w0 S st a d chain w'→R (.panic chain) a w'):o.wp P a w N R:=by
 have hi':=hi
 obtain⟨pu,ow,hm,he,hb,hz,hid,hs,hd⟩:=hi'
 have hid':∀b,id+32≤b→ow b=.pending:=fun b hb=>hid b (by omega)
 unfold qap at h
 split at h
 ·rename_i op t x y ho
  split at h
  ·rename_i b blk hst
   obtain⟨w',hrun,m1,m2,m3⟩:=qza (P:=P) hm he.eval ho hst
   unfold Oper.wp
   rw[hrun,Oper.upon_skip]
   have hbs:(lkH st.hp b).isSome:=by
    unfold qjA at hst
    split at hst
    ·obtain⟨blk',hbk,hst⟩:=Option.bind_eq_some_iff.1 hst
     split at hst
     ·simp only[Option.some.injEq,Prod.mk.injEq]at hst
      obtain⟨rfl,_⟩:=hst
      rw[hbk];rfl
     ·cases hst
    ·cases hst
   have hhp:lkH (qj1 b blk st.hp)=qA3 b blk (lkH st.hp):=by
    funext c
    rw[qfH]
    unfold qA3
    by_cases hc:c=b
    ·subst hc;simp[hbs]
    ·simp[hc]
   exact hN _ _ _ h.2 ⟨pu,ow,by rw[hhp];exact m1,(he.mono m2).put (by rw[hs];exact h.1) (.pure _ _ .skip),hb.trans m3,hz,hid',by rw[qcX];exact hs,by rw[qbZ];exact hd.1,hd.2.step m2 fun _=>.inr rfl⟩
  ·exact h.elim
 ·rename_i op f args ts ho
  exact qvU ho hi h hN hP
 ·rename_i op args ts ho
  split at h
  ·rename_i s x t t' hargs hts
   split at h
   ·rename_i htt
    subst htt
    have ha:args= #[s,x]:=by rw[←Array.toArray_toList (xs:=args),hargs]
    have ht':ts= #[t,t]:=by rw[←Array.toArray_toList (xs:=ts),hts]
    subst ha ht'
    have hrunof:∀(v:Value) (w':World),(Builtin.append_ #[t,t] o.type #[a.eval s,a.eval x]).run P w=.ok v w'→(execOp a.eval o).run P w=.ok (.value v) w':=by
     intro v w' hr
     obtain⟨dst,op,ty,pos,after,guard⟩:=o
     simp only at ho hr
     subst ho
     simp[execOp,resolve,invoke,builtin,hr]
    have hcore:∀(ob:Option Nat) (blk:Blk),qcN P (lkH st.hp) t (qac st.env s) (qac st.env x)=some (ob,blk)→
      ∃v w' o' row,(Builtin.append_ #[t,t] o.type #[a.eval s,a.eval x]).run P w=.ok v w'∧Appended w0.heap.size w w' pu ow (qac st.env s) blk.k blk.rows o' row v∧0<blk.k∧(blk.flat=true→qan blk.rows=true)∧
       ((ob=none∧qac st.env s=.nilsl)∨∃b off len blk0,ob=some b∧qac st.env s=.os b off len∧lkH st.hp b=some blk0∧∀r∈blk.rows,∀c∈r,qep b c=false):=by
     intro ob blk hap
     unfold qcN at hap
     split at hap
     ·rename_i e hu
      obtain⟨new,hn,hap⟩:=Option.bind_eq_some_iff.1 hap
      obtain⟨old,hol,hap⟩:=Option.bind_eq_some_iff.1 hap
      split at hap
      ·rename_i hc
       obtain⟨hpos,hrn,hcn,hby,h63,hzo,hkx⟩:=hc
       have hbx:∀b off len blk,qac st.env x=.os b off len→lkH st.hp b=some blk→blk.k=P.cellsOf e∨blk.k=0:=by
        intro b off len blk hxe hbk
        rw[hxe]at hkx
        simpa[kOK,hbk]using hkx
       split at hap
       ·rename_i hse
        simp only[Option.some.injEq,Prod.mk.injEq]at hap
        obtain⟨rfl,rfl⟩:=hap
        rw[hse]at hol
        injection hol with hol;subst hol
        obtain⟨v,w',o',row,h1,h2⟩:=qkG (P:=P) (ty:=o.type) hm hb.size hu (he.eval s) (he.eval x) (by rw[hse];rfl) hn hpos hrn hcn hbx hby h63 hzo (.inl ⟨hse,rfl⟩)
        exact⟨v,w',o',row,h1,by rw[hse]at h2 ⊢;exact h2,hpos,fun h=>h,.inl ⟨rfl,hse⟩⟩
       ·rename_i b off len hse
        obtain⟨blk0,hb0,hap⟩:=Option.bind_eq_some_iff.1 hap
        split at hap
        ·rename_i hc2
         simp only[Option.some.injEq,Prod.mk.injEq]at hap
         obtain⟨rfl,rfl⟩:=hap
         obtain⟨v,w',o',row,h1,h2⟩:=qkG (P:=P) (ty:=o.type) hm hb.size hu (he.eval s) (he.eval x) hol hn hpos hrn hcn hbx hby h63 hzo (.inr ⟨b,off,len,blk0,hse,hb0,hc2.1⟩)
         refine⟨v,w',o',row,h1,h2,hpos,fun hf=>?_,.inr ⟨b,off,len,blk0,rfl,hse,hb0,hc2.2⟩⟩
         simp only[Bool.and_eq_true]at hf
         have hf0:=(hm.blk b blk0 hb0).1 hf.1
         rw[hse]at hol
         simp only[qaY,hb0,Option.bind_some]at hol
         split at hol
         ·injection hol with hol;subst hol
          simp only[qan,List.all_append,Bool.and_eq_true]at hf hf0 ⊢
          refine⟨List.all_eq_true.2 fun r hr=>(List.all_eq_true.1 hf0) r (List.mem_of_mem_drop (List.mem_of_mem_take hr)),hf.2⟩
         ·cases hol
        ·cases hap
       ·cases hap
      ·cases hap
     ·cases hap
    have hrow:∀{ds:D} {k:Nat} {rows:List (List D)} {o':Ow} {row:Option Nat} {v:Value} {w':World},Appended w0.heap.size w w' pu ow ds k rows o' row v→∀g,pu g→w'.heap[g]? =w.heap[g]?:=fun hA g hg=>hA.keep g (fun y hy=>by
     obtain⟨b,off,len,a',k',sz',_,hat⟩:=hA.rowAt y hy
     rintro rfl
     exact(hm.own b _ _ _ _ hat).2 hg) (hm.zone g hg)
    split at h
    ·rename_i blk hap
     obtain⟨v,w',o',row,hrun,hA,hk,hfl,hwhich⟩:=hcore none blk hap
     obtain⟨_,hnil⟩:none=(none:Option Nat)∧qac st.env s=.nilsl:=by
      rcases hwhich with h|⟨_,_,_,_,h,_⟩
      ·exact h
      ·cases h
     rw[hnil]at hA
     have hrn:row=none:=by
      cases row with
      |none=>rfl
      |some y=>obtain⟨_,_,_,_,_,_,hh,_⟩:=hA.rowAt y rfl;cases hh
     subst hrn
     have hbw:Below w.heap.size w w':=⟨hA.below.os,hA.below.tape,hA.below.output,hA.below.size,fun k hk=>hA.keep k (fun y hy=>by cases hy) hk,hA.below.drawn⟩
     have hm':Mem w0.heap.size w pu ow (lkH ((id,blk)::st.hp)):=by
      refine⟨fun b blk' hb'=>?_,fun b hb'=>?_,hm.injO,hm.ownO,hm.zone⟩
      ·simp only[lkH]at hb'
       split at hb'
       ·rename_i hbi
        subst hbi
        rw[hid b (Nat.le_refl _)]
        injection hb' with hb';subst hb'
        exact⟨hfl,trivial⟩
       ·exact hm.blk b blk' hb'
      ·simp only[lkH]at hb'
       split at hb'
       ·cases hb'
       ·exact hm.none b hb'
     have hblk:lkH ((id,blk)::st.hp) id=some blk:=by simp[lkH]
     have hpid:=hid id (Nat.le_refl _)
     have hok:=qmE (b:=id) (fl:=blk.flat) hA hk hfl (fun r hr c hc v hv=>qoU hv hpid) (hrow hA)
     have hmem:=(hm'.grow hbw).set (o:=o') hpid hblk hok (fun g hat=>by
      rcases hA.placeO g hat with⟨rfl,_⟩|h
      ·exact⟨hb.size,fun hg=>Nat.lt_irrefl _ (hm.zone _ hg),fun b' h2=>Nat.lt_irrefl _ (hm.on_lt h2)⟩
      ·cases h)
     have hext:Ext w pu ow w' pu (qjW ow id o'):=⟨fun g hg=>⟨hg,hrow hA g hg⟩,(qkA (w:=w) (pu:=pu) hpid).ow⟩
     exact qeU hmem (he.mono hext) (hb.trans (hbw.mono hb.size)) hz (fun b hb'=>by rw[qay (by omega)];exact hid' b hb') hs ⟨hd.1,hd.2.step hext fun c=>by by_cases hc:c=id;(subst hc;exact .inl hpid);exact .inr (qay hc)⟩ (hrunof v w' hrun) (qmD hA) h hN
    ·rename_i b blk hap
     obtain⟨v,w',o',row,hrun,hA,hk,hfl,hwhich⟩:=hcore (some b) blk hap
     obtain⟨b',off,len,blk0,hbb,hos,hb0,hment⟩:∃b' off len blk0,some b=some b'∧qac st.env s=.os b' off len∧lkH st.hp b'=some blk0∧∀r∈blk.rows,∀c∈r,qep b' c=false:=by
      rcases hwhich with⟨h,_⟩|h
      ·cases h
      ·exact h
     injection hbb with hbb;subst hbb
     have hok:=qmE (b:=b) (fl:=blk.flat) hA hk hfl (fun r hr c hc v hv=>hment r hr c hc) (hrow hA)
     have hmem:=hm.write (o:=o') (blk':=blk) hb0 (hm.live hb0) (row:=row) hA.keep hA.size (fun y hy=>by
       obtain⟨b2,off2,len2,a2,k2,sz2,hh,hat⟩:=hA.rowAt y hy
       rw[hos]at hh
       injection hh with hh;subst hh
       exact Ow.on_lies hat) (fun g hat=>by
       rcases hA.placeO g hat with⟨rfl,_⟩|hrw
       ·exact⟨hb.size,fun hg=>Nat.lt_irrefl _ (hm.zone _ hg),fun b' _ h2=>Nat.lt_irrefl _ (hm.on_lt h2)⟩
       ·obtain⟨b2,off2,len2,a2,k2,sz2,hh,hat2⟩:=hA.rowAt g hrw
        rw[hos]at hh
        injection hh with hh;subst hh
        exact⟨(hm.own b _ _ _ _ hat2).1,(hm.own b _ _ _ _ hat2).2,fun b' hne h3=>hne (hm.injO b' b _ h3 (Ow.on_lies hat2))⟩) hok
     have hpur:lkH ((b,blk)::qg9 b st.hp)=qoQ b blk (lkH st.hp):=by
      funext c
      simp only[lkH,qoQ,qmC]
     have henv:qfB w' pu (qjW ow b o') (qfZ b st.env) a:=fun s'=>by
      rw[qoP]
      exact(he s').pd.mono ⟨fun g hg=>⟨hg,hrow hA g hg⟩,fun _=>.inr (.inl rfl)⟩
     have hlt:b<id:=by
      rcases Nat.lt_or_ge b id with h|h
      ·exact h
      ·have hr:=he.eval s
       rw[hos]at hr
       have:=qoU hr (hid b h)
       simp[qep]at this
     unfold Oper.wp
     rw[hrunof v w' hrun,Oper.upon_value]
     refine hN _ _ _ h.2 ⟨pu,qjW ow b o',by rw[hpur];exact hmem,henv.put (by rw[hs];exact h.1) (qmD hA),hb.trans hA.below,hz,fun c hc=>by rw[qay (by omega)];exact hid' c hc,by rw[qcX];exact hs,by rw[qbZ];exact hd.1,⟨fun g hg=>?_,fun c=>.inl ?_⟩⟩
     ·obtain⟨q1,q2⟩:=hd.2.1 g hg
      exact⟨q1,(hrow hA g q1).trans q2⟩
     ·rcases hNA with hNA|hNA
      ·exact hNA c
      ·rw[ho]at hNA;cases hNA
    ·exact h.elim
   ·exact h.elim
  ·exact h.elim
 ·rename_i op t parts ho
  split at h
  ·rename_i d hbd
   obtain⟨v,h1,h2⟩:=qoN (P:=P) he.eval hbd
   refine qeU hm he hb hz hid' hs hd (v:=v) ?_ h2 h hN
   obtain⟨dst,op,ty,pos,after,guard⟩:=o
   simp only at ho
   subst ho
   simp[execOp,h1]
  ·exact h.elim
 ·split at h
  ·rename_i d hop
   obtain⟨v,h1,h2⟩:=qA1 (P:=P) hm he.eval hop
   exact qeU hm he hb hz hid' hs hd h1 h2 h hN
  ·split at h
   ·rename_i ptr blk hop
    have hm':Mem w0.heap.size w pu ow (lkH ((id,blk)::st.hp)):=by
     refine⟨fun b blk' hb'=>?_,fun b hb'=>?_,hm.injO,hm.ownO,hm.zone⟩
     ·simp only[lkH]at hb'
      split at hb'
      ·rename_i hbi
       subst hbi
       rw[hid b (Nat.le_refl _)]
       injection hb' with hb';subst hb'
       exact⟨qnB hop,trivial⟩
      ·exact hm.blk b blk' hb'
     ·simp only[lkH]at hb'
      split at hb'
      ·cases hb'
      ·exact hm.none b hb'
    obtain⟨v,w',ow',h1,h2,h3,h4,h5,h6⟩:=qA2 (P:=P) (id:=id) hm' hb.size (hid id (Nat.le_refl _)) he.eval hop (by simp[lkH])
    exact qeU h2 (he.mono h3) (hb.trans (h4.mono hb.size)) hz (fun b hb'=>by rw[h6 b (by omega)];exact hid' b hb') hs ⟨hd.1,hd.2.step h3 fun c=>by by_cases hc:c=id;(subst hc;exact .inl (hid _ (Nat.le_refl _)));exact .inr (h6 c hc)⟩ h1 h5 h hN
   ·split at h
    ·rename_i bs hnb
     obtain⟨b,hbm,h1⟩:=qB3 (P:=P) hm he.eval (fun _=>rfl) hnb
     exact qeU hm he hb hz hid' hs hd h1 (.pure _ _ (.bool b)) (h b hbm) hN
    ·unfold qqL at h
     split at h
     ·rename_i op x ho
      obtain⟨t,d,hx,hp,hk⟩:=h
      have hv:=he.eval x
      rw[hx]at hv
      obtain⟨v,hv2,hr⟩:∃v,a.eval x=.iface t v∧RepP w (fun _=>False) (.iface t v) (.iface t d):=by
       generalize a.eval x=y at hv
       cases hv with
       |pure _ _ hq=>cases hq with|iface _ v _ hq=>exact⟨v,rfl,qiX (.iface t v _ hq) hp⟩
       |iface _ v _ hq=>
        refine⟨v,rfl,?_⟩
        unfold qmc at hp
        split at hp
        ·rename_i e
         injection e with e1 e2
         subst e1 e2
         obtain⟨vs,rfl,hl,hc⟩:=hq.agg_inv
         refine .iface _ _ _ (.agg vs _ hl fun i v d h1 h2=>?_)
         have hs:=List.all_eq_true.1 hp d (List.mem_of_getElem? h2)
         have:=hc i v d h1 h2
         cases this with
         |pure _ _ h=>exact qcn h hs
         |_=>cases hs
        ·rename_i e
         injection e with e1 e2
         subst e1 e2
         cases hq with
         |pure _ _ h=>exact .iface _ _ _ (qcn h hp)
         |_=>cases hp
        ·rename_i h1 h2
         exact(h2 _ _ rfl).elim
      unfold Oper.wp
      have hrun:(execOp a.eval o).run P w=.halt (.panic (.iface t v)) w:=by
       obtain⟨dst,op,ty,pos,after,guard⟩:=o
       simp only at ho
       subst ho
       simp[execOp,Instr.panic,hv2,goPanic]
      rw[hrun]
      exact hP _ _ _ hk ⟨hb,fun _=>False,_,rfl,fun g hg=>hg.elim,hr,pu,ow,hm,he,hd.2⟩
     ·exact h.elim
end
section
variable {P:Program}{w w' w0:World}{pu pu' Q:Nat→Prop}{S:Frm}{ow ow':Nat→Ow}{base:Nat}{hp:Nat→Option Blk}
theorem qhY{all:List Oper}{env:Env}{a:Act}(he:qfB w pu ow env a){j:Nat}{r:Option Bool}(h:qdV all env j=some r):yielded all.toArray a.tmps j=r:=by
 unfold qdV at h
 unfold yielded
 simp only[List.getElem?_toArray]
 cases hd:(all[j]?).bind (·.dst)with
 |none=>
  rw[hd]at h
  cases h
  rfl
 |some s=>
  rw[hd]at h
  simp only at h
  have hs:=he s
  rw[Array.getD_eq_getD_getElem?]at hs
  split at h
  ·rename_i b hb
   injection h with h;subst h
   rw[hb]at hs
   have:=hs.bool_inv
   cases ht:a.tmps[s]? with
   |none=>rw[ht]at this;cases this
   |some v=>rw[ht]at this;simp at this;subst this;simp[ht]
  ·rename_i hb
   injection h with h;subst h
   rw[hb]at hs
   have hu:(a.tmps[s]?).getD undef=undef:=by
    generalize (a.tmps[s]?).getD undef=u at hs
    cases hs with
    |pure _ _ hs=>cases hs;rfl
   cases ht:a.tmps[s]? with
   |none=>simp[ht]
   |some v=>
    rw[ht]at hu
    simp at hu
    subst hu
    simp[ht,undef]
  ·cases h
theorem qcb.skip{id:Nat}{st:St}{a:Act}(hi:qcb w0 S id st a w){dst:Option Tmp}(hd:qak st.n dst=true):qcb w0 S (id+32) (st.put dst .skip) (a.put dst undef) w:=by
 obtain⟨pu,ow,hm,he,hb,hz,hid,hs,hdf⟩:=hi
 exact⟨pu,ow,hm,he.put (by rw[hs];exact hd) (.pure _ _ .skip),hb,hz,fun b hb=>hid b (by omega),by rw[qcX];exact hs,by rw[qbZ];exact hdf.1,hdf.2⟩
theorem qcb.env{id:Nat}{st:St}{a:Act}(hi:qcb w0 S id st a w):∃pu ow,qfB w pu ow st.env a:=by
 obtain⟨pu,ow,hm,he,_⟩:=hi
 exact⟨pu,ow,he⟩
theorem qcb.defers{id:Nat}{st:St}{a:Act}(hi:qcb w0 S id st a w):a.defers=S.df:=by
 obtain⟨pu,ow,hm,he,hb,hz,hid,hs,hdf⟩:=hi
 exact hdf.1
theorem qgJ{all:List Oper}{K:X→St→Prop}:∀(l:List Oper) (id:Nat) (st:St) (a:Act) (w:World),(S.free∨∀o∈l,qg2 o.op=true)→qcb w0 S id st a w→qaP P all l id st K→wpList P all.toArray (qmd w0 S K) l a w
 |[],id,st,a,w,_,hi,h=>⟨_,h,hi⟩
 |o::rest,id,st,a,w,hNA,hi,h=>by
  have hNA1:S.free∨qg2 o.op=true:=hNA.imp (fun h=>h) fun h=>h o (by simp)
  have hNA2:S.free∨∀o∈rest,qg2 o.op=true:=hNA.imp (fun h=>h) fun h o ho=>h o (by simp[ho])
  have hrun:∀(hi:qcb w0 S id st a w),qap P o.op id o.dst st (fun x st'=>match x with|.normal=>qaP P all rest (id+32) st' K|x=>K x st')→o.wp P a w (wpList P all.toArray (qmd w0 S K) rest) (qmd w0 S K):=fun hi hr=>
   qiY hNA1 hi hr (fun st' a' w' hK hi'=>qgJ rest _ st' a' w' hNA2 hi' hK) fun d chain w' hK hp=>⟨d,st,hK,hi.defers,hp⟩
  unfold qaP at h
  simp only at h
  unfold wpList
  cases hg:o.guard with
  |none=>
   rw[hg]at h
   rw[if_pos (by simp[Region.wanted,hg])]
   exact .inl (hrun hi h)
  |some jw=>
   obtain⟨j,want⟩:=jw
   rw[hg]at h
   simp only at h
   obtain⟨pu,ow,he⟩:=hi.env
   split at h
   ·rename_i b hgd
    have hy:=qhY he hgd
    by_cases hb:b=want
    ·rw[if_pos (by simp[Region.wanted,hg,hy,hb])]
     exact .inl (hrun hi (h.1 hb))
    ·have hb':b= !want:=by cases b<;>cases want<;>simp_all
     rw[if_neg (by simp[Region.wanted,hg,hy,hb])]
     obtain⟨h1,h2⟩:=h.2 hb'
     exact qgJ rest _ _ _ _ hNA2 (hi.skip h1) h2
   ·rename_i hgd
    have hy:=qhY he hgd
    rw[if_neg (by simp[Region.wanted,hg,hy])]
    exact qgJ rest _ _ _ _ hNA2 (hi.skip h.1) h.2
   ·exact h.elim
end
def qhZ:Op→Bool
 |.store .. =>false
 |.call {callee:=.builtin .append,..}=>false
 |.binOp _ _ _ (.const (.slice none 0 0)) _=>false
 |_=>true
theorem qvV{P:Program}{ρ:Operand→D}{hp:Nat→Option Blk}{o:Op}{bs:List Bool}(h:qmb P ρ hp o=some bs):qhZ o=false:=by
 unfold qmb at h
 split at h
 ·rfl
 ·cases h
def OpA(P:Program)(ρ:Operand→D)(hp:Nat→Option Blk)(id:Nat)(o:Op)(d:D)(nb:Hp):Prop:=
 match o with
 |.call {callee:=.value f,args:=args,..}=>
  ∃g xs ys args' r,ρ f=.clo (.func g) xs ys∧qbX hp 64 (xs++args.toList.map ρ++ys)=some args'∧Contract P g args' (.ret r)∧
   (qbV (xs++args.toList.map ρ++ys)=true∨qbY r=true)∧qqB r≤32∧d=(qaO id r).1∧nb=(qaO id r).2
 |.build t parts=>qjz P t (parts.toList.map fun(i,x)=>(i,ρ x))=some d∧nb=[]
 |o=>(op0 P ρ hp o=some d∧nb=[])∨∃ptr blk,op1 P ρ o=some (ptr,blk)∧d=qy3 id ptr blk∧nb=[(id,blk)]
section
variable {P:Program}{w w' w0:World}{pu pu' Q:Nat→Prop}{S:Frm}{ow ow':Nat→Ow}{base:Nat}{hp hq:Nat→Option Blk}
theorem Mem.addPend(hm:Mem base w pu ow hp){id:Nat}{blk:Blk}(hid:ow id=.pending)(hf:blk.flat=true→qan blk.rows=true)(hhq:∀b,hq b=(lkH [(id,blk)] b).or (hp b)):Mem base w pu ow hq:=by
 refine⟨fun b blk' hb'=>?_,fun b hb'=>?_,hm.injO,hm.ownO,hm.zone⟩
 ·rw[hhq]at hb'
  simp only[lkH]at hb'
  split at hb'
  ·rename_i hbi
   subst hbi
   injection hb' with hb';subst hb'
   rw[hid]
   exact⟨hf,trivial⟩
  ·exact hm.blk b blk' (by simpa using hb')
 ·rw[hhq]at hb'
  simp only[lkH]at hb'
  split at hb'
  ·cases hb'
  ·exact hm.none b (by simpa using hb')
theorem qEj{o:Oper}{id:Nat}{a:Act}{ρ:Operand→D}{d:D}{nb:Hp}{N:Act→World→Prop}{R:Exit→Act→World→Prop}(hm:Mem base w pu ow hp)(hbase:base≤w.heap.size)(hρ:∀x,Rep w pu ow (a.eval x) (ρ x))
  (h:OpA P ρ hp id o.op d nb) (hhq:∀b,hq b=(lkH nb b).or (hp b)) (hpend:∀b,(lkH nb b).isSome→ow b=.pending)
  (hN:∀v w' pu' ow',Mem base w' pu' ow' hq→Ext w pu ow w' pu' ow'→Rep w' pu' ow' v d→Below w.heap.size w w'→(∀g,pu' g→pu g∨w.heap.size≤g)→(∀b,lkH nb b=none→ow' b=ow b)→N (a.put o.dst v) w'):o.wp P a w N R:=by
 have val:∀v,(execOp a.eval o).run P w=.ok (.value v) w→Rep w pu ow v d→nb=[]→o.wp P a w N R:=by
  intro v h1 h2 h3
  subst h3
  have hqp:hq=hp:=funext fun b=>by rw[hhq];rfl
  unfold Oper.wp
  rw[h1,Oper.upon_value]
  exact hN v w pu ow (by rw[hqp];exact hm) (Ext.refl _ _ _) h2 (Below.refl _ _) (fun g hg=>.inl hg) fun _ _=>rfl
 unfold OpA at h
 split at h
 ·rename_i op f args ts ho
  obtain⟨g,xs,ys,args',r,hf,hpur,hcon,hown,hw,rfl,rfl⟩:=h
  have hfr:=hρ f
  rw[hf]at hfr
  obtain⟨vx,vy,hfv,hlx,hrx,hly,hry⟩:=hfr.clo_inv
  unfold Oper.wp
  rw[qhX hcon.1 ho hfv,Oper.upon_enter]
  have hargs:∀(i:Nat) (v:Value) (d:D),(vx++args.map a.eval++vy)[i]? =some v→(xs++args.toList.map ρ++ys)[i]? =some d→Rep w pu ow v d:=by
   intro i v d h1 h2
   rw[Array.getElem?_append,Array.getElem?_append]at h1
   rw[List.getElem?_append,List.getElem?_append]at h2
   simp only[Array.size_append,Array.size_map,List.length_append,List.length_map,Array.length_toList,hlx]at h1 h2
   split at h1
   ·rename_i hlt
    rw[if_pos hlt]at h2
    split at h1
    ·rename_i hlt2
     rw[if_pos hlt2]at h2
     exact hrx i v d h1 h2
    ·rename_i hlt2
     rw[if_neg hlt2]at h2
     rw[Array.getElem?_map]at h1
     rw[List.getElem?_map,Array.getElem?_toList]at h2
     obtain⟨x,hx,rfl⟩:=Option.map_eq_some_iff.1 h1
     rw[hx]at h2
     injection h2 with h2;subst h2
     exact hρ x
   ·rename_i hlt
    rw[if_neg hlt]at h2
    exact hry _ v d h1 h2
  have hlen:(vx++args.map a.eval++vy).size=(xs++args.toList.map ρ++ys).length:=by simp[hlx,hly]
  rcases hown with hpure|hscal
  ·have ha:=qj9 hm (fun _ h=>h) hlen hargs (.inl hpure) hpur
   refine(hcon.2 pu w _ hm.zone ha).mono fun e w' ⟨hbw,Q,hQ,v,he,hv⟩=>?_
   subst he
   obtain⟨pu',ow',m1,m2,m3,m4,m5⟩:=qzc hm hbw (id:=id) hpend hbase hQ hv hhq
   exact hN v w' pu' ow' m1 m2 m3 hbw m4 m5
  ·have ha:=qj9 (Z:=fun g=>g<w.heap.size) hm hm.zone hlen hargs (.inr fun b g o k sz h=>hm.at_lt h) hpur
   refine(hcon.2 _ w _ (fun g h=>h) ha).mono fun e w' ⟨hbw,Q,hQ,v,he,hv⟩=>?_
   subst he
   obtain⟨pu',ow',m1,m2,m3,m4,m5⟩:=qzc hm hbw (id:=id) (Q:=fun _=>False) hpend hbase (fun g hg=>hg.elim) (hv.rezone hscal) hhq
   exact hN v w' pu' ow' m1 m2 m3 hbw m4 m5
 ·rename_i op t parts ho
  obtain⟨hbd,hnb⟩:=h
  obtain⟨v,h1,h2⟩:=qoN (P:=P) hρ hbd
  refine val v ?_ h2 hnb
  obtain⟨dst,op,ty,pos,after,guard⟩:=o
  simp only at ho
  subst ho
  simp[execOp,h1]
 ·rcases h with⟨hop,hnb⟩|⟨ptr,blk,hop,rfl,rfl⟩
  ·obtain⟨v,h1,h2⟩:=qA1 (P:=P) hm hρ hop
   exact val v h1 h2 hnb
  ·have hpid:=hpend id (by simp[lkH])
   have hm':=hm.addPend hpid (qnB hop) hhq
   obtain⟨v,w',ow',h1,h2,h3,h4,h5,h6⟩:=qA2 (P:=P) (id:=id) hm' hbase hpid hρ hop (by rw[hhq];simp[lkH])
   unfold Oper.wp
   rw[h1,Oper.upon_value]
   exact hN v w' pu ow' h2 h3 h5 h4 (fun g hg=>.inl hg) fun b hb=>h6 b (by rintro rfl;simp[lkH]at hb)
theorem qEk{o:Op}{id:Nat}{dst:Option Tmp}{st:St}{K:X→St→Prop}(hk:qhZ o=true)(h:qap P o id dst st K):
  (∃d nb,OpA P (qac st.env) (lkH st.hp) id o d nb∧qak st.n dst=true∧K .normal {st with env:=qdU dst d st.env,hp:=nb++st.hp})∨∃d,K (.pan d) st:=by
 unfold qap at h
 split at h
 ·cases hk
 ·rename_i f args ts
  unfold qf1 at h
  split at h
  ·rename_i g xs ys hfd
   obtain⟨args',out,hpur,hcon,hown,hout⟩:=h
   cases out with
   |ret r=>exact .inl ⟨_,_,⟨g,xs,ys,args',r,hfd,hpur,hcon,hown,hout.1,rfl,rfl⟩,hout.2.1,hout.2.2⟩
   |pan d=>exact .inr ⟨d,hout⟩
  ·exact h.elim
 ·cases hk
 ·rename_i t parts
  split at h
  ·rename_i d hbd
   exact .inl ⟨d,[],⟨hbd,rfl⟩,h.1,h.2⟩
  ·exact h.elim
 ·rename_i hne1 hne2 hne3 hne4
  split at h
  ·rename_i d hop
   refine .inl ⟨d,[],?_,h.1,h.2⟩
   unfold OpA
   split
   ·exact(hne2 _ _ _ rfl).elim
   ·exact(hne4 _ _ rfl).elim
   ·exact .inl ⟨hop,rfl⟩
  ·split at h
   ·rename_i ptr blk hop
    refine .inl ⟨_,[(id,blk)],?_,h.1,h.2⟩
    unfold OpA
    split
    ·exact(hne2 _ _ _ rfl).elim
    ·exact(hne4 _ _ rfl).elim
    ·exact .inr ⟨ptr,blk,hop,rfl,rfl⟩
   ·split at h
    ·rename_i bs hnb
     rw[qvV hnb]at hk
     cases hk
    ·unfold qqL at h
     split at h
     ·obtain⟨t,d,_,_,h⟩:=h
      exact .inr ⟨_,h⟩
     ·exact h.elim
end
def Sub(hp hq:Nat→Option Blk):Prop:=∀b blk,hp b=some blk→hq b=some blk
section
variable {P:Program}{ρ ρ':Operand→D}{hp hq:Nat→Option Blk}
theorem qnC{xs:Array Operand}(h:∀x∈xs,ρ x=ρ' x):xs.toList.map ρ=xs.toList.map ρ':=
 List.map_congr_left fun x hx=>h x (by simpa using hx)
theorem qkO{ps:Array (Nat×Operand)}(h:∀x∈ps.map (·.2),ρ x=ρ' x):(ps.toList.map fun(i,x)=>(i,ρ x))=ps.toList.map fun(i,x)=>(i,ρ' x):=
 List.map_congr_left fun p hp=>by
  obtain⟨i,x⟩:=p
  simp only[h x (Array.mem_map.2 ⟨(i,x),by simpa using hp,rfl⟩)]
theorem qoV{o:Op}(h:∀x∈o.operands,ρ x=ρ' x):op0 P ρ hp o=op0 P ρ' hp o:=by
 cases o<;>simp only[Op.operands]at h<;>try(first|rfl|(simp_all [op0];done))
 case slice t x lo hi mx=>
  cases lo<;>cases hi<;>cases mx<;>simp_all [op0]
 case lookup t m k c=>
  cases c<;>simp_all [op0]
 case call c=>
  obtain⟨callee,args,ts⟩:=c
  cases callee with
  |value f=>rfl
  |invoke r m=>rfl
  |builtin b=>
   have ha:∀x∈args.toList,ρ x=ρ' x:=fun x hx=>h x (by simpa[Call.operands]using hx)
   cases b<;>try rfl
   all_goals
    simp only[op0]
    cases hl:args.toList with
    |nil=>rfl
    |cons x r=>
     rw[hl]at ha
     have h1:=ha x (by simp)
     have h2:r.map ρ=r.map ρ':=List.map_congr_left fun y hy=>ha y (by simp[hy])
     first
      |(simp only[h1,h2];done)
      |(cases r with
        |nil=>(cases ts.toList with
         |nil=>rfl
         |cons t ts=>cases ts<;>simp only[h1])
        |cons _ _=>rfl)
theorem qoW{o:Op}(h:∀x∈o.operands,ρ x=ρ' x):op1 P ρ o=op1 P ρ' o:=by
 cases o<;>simp only[Op.operands]at h<;>try(first|rfl|(simp_all [op1];done))
 case buildSlice t n ps=>
  simp only[op1]
  rw[qkO (ps:=ps) fun x hx=>h x (by simpa using hx)]
theorem qrV{α:Type}{b:Nat}{f:Blk→Option α}{d:α}(hs:Sub hp hq)(h:(hp b).bind f=some d):(hq b).bind f=some d:=by
 obtain⟨blk,hb,h⟩:=Option.bind_eq_some_iff.1 h
 rw[hs b blk hb];exact h
theorem qzd{o:Op}{d:D}(hs:Sub hp hq)(h:op0 P ρ hp o=some d):op0 P ρ hq o=some d:=by
 unfold op0 at h ⊢
 split at h
 all_goals try exact h
 case _ t a=>
  unfold qhS at h ⊢
  split at h
  ·exact h
  ·exact qrV hs h
  ·cases h
 case _ x=>
  unfold qga at h ⊢
  split at h
  ·exact h
  ·rename_i b r o _
   cases hb:hp b with
   |none=>rw[hb]at h;cases h
   |some blk=>rw[hb]at h;simp only[hs b blk hb];exact h
  ·exact h
  ·cases h
 case _ t x lo hi=>
  unfold qjx at h ⊢
  split at h
  ·exact h
  ·exact h
  ·rename_i e b off len _ hu
   cases hb:hp b with
   |none=>rw[hb]at h;cases h
   |some blk=>rw[hb]at h;simp only[hs b blk hb];exact h
  ·cases h
 case _ s x f=>
  unfold qdz at h ⊢
  split at h
  ·exact h
  ·rename_i o t b row off _ hf
   cases hb:hp b with
   |none=>rw[hb]at h;simp at h
   |some blk=>rw[hb]at h;simp only[hs b blk hb];exact h
  ·cases h
 case _ t x i=>
  unfold qdc at h ⊢
  split at h
  ·exact h
  ·rename_i b off len _ n _ _ _
   cases hb:hp b with
   |none=>rw[hb]at h;cases h
   |some blk=>rw[hb]at h;simp only[hs b blk hb];exact h
  ·exact h
  ·rename_i b row off _ n _ _ _
   cases hb:hp b with
   |none=>rw[hb]at h;cases h
   |some blk=>rw[hb]at h;simp only[hs b blk hb];exact h
  ·cases h
 case _ t m k=>
  unfold qiT at h ⊢
  split at h
  ·exact qrV hs h
  ·cases h
 case _ xs ts=>
  split at h
  ·unfold qA0 at h ⊢
   split at h
   ·exact h
   ·exact h
   ·exact h
   ·rename_i b _ len _ _
    cases hb:hp b with
    |none=>rw[hb]at h;cases h
    |some blk=>rw[hb]at h;simp only[hs b blk hb];exact h
   ·exact h
   ·cases h
  ·cases h
theorem qrW(hs:Sub hp hq):∀n,(∀d d',pur hp n d=some d'→pur hq n d=some d')∧(∀ds ds',qbX hp n ds=some ds'→qbX hq n ds=some ds')∧(∀rs rs',qqJ hp n rs=some rs'→qqJ hq n rs=some rs')
 |0=>⟨fun d d' h=>by simp[pur]at h,fun d d' h=>by simp[qbX]at h,fun d d' h=>by simp[qqJ]at h⟩
 |n+1=>by
  obtain⟨h1,h2,h3⟩:=qrW hs n
  refine⟨fun d d' h=>?_,fun ds ds' h=>?_,fun rs rs' h=>?_⟩
  ·cases d with
   |os b off len=>
    simp only[pur]at h ⊢
    obtain⟨blk,hb,h⟩:=Option.bind_eq_some_iff.1 h
    rw[hs b blk hb]
    simp only[Option.bind_some]
    split at h
    ·rename_i hl
     rw[if_pos hl]
     split at h
     ·rename_i hf;rw[if_pos hf];exact h
     ·rename_i hf
      rw[if_neg hf]
      obtain⟨r,hr,rfl⟩:=Option.map_eq_some_iff.1 h
      rw[h3 _ _ hr];rfl
    ·cases h
   |op b row off=>
    simp only[pur]at h ⊢
    obtain⟨blk,hb,h⟩:=Option.bind_eq_some_iff.1 h
    rw[hs b blk hb]
    simp only[Option.bind_some]
    split at h
    ·rename_i hl
     rw[if_pos hl]
     split at h
     ·rename_i hf;rw[if_pos hf];exact h
     ·rename_i hf
      rw[if_neg hf]
      obtain⟨r,hr,rfl⟩:=Option.map_eq_some_iff.1 h
      rw[h2 _ _ hr];rfl
    ·cases h
   |agg cs=>
    simp only[pur]at h ⊢
    obtain⟨r,hr,rfl⟩:=Option.map_eq_some_iff.1 h
    rw[h2 _ _ hr];rfl
   |tup cs=>
    simp only[pur]at h ⊢
    obtain⟨r,hr,rfl⟩:=Option.map_eq_some_iff.1 h
    rw[h2 _ _ hr];rfl
   |clo fn xs ys=>
    simp only[pur]at h ⊢
    obtain⟨r,hr,h⟩:=Option.bind_eq_some_iff.1 h
    obtain⟨s,hs',rfl⟩:=Option.map_eq_some_iff.1 h
    rw[h2 _ _ hr,h2 _ _ hs'];rfl
   |iface t d=>
    simp only[pur]at h ⊢
    obtain⟨r,hr,rfl⟩:=Option.map_eq_some_iff.1 h
    rw[h1 _ _ hr];rfl
   |_=>simpa[pur]using h
  ·cases ds with
   |nil=>simpa[qbX]using h
   |cons d ds=>
    simp only[qbX]at h ⊢
    obtain⟨r,hr,h⟩:=Option.bind_eq_some_iff.1 h
    obtain⟨s,hs',rfl⟩:=Option.map_eq_some_iff.1 h
    rw[h1 _ _ hr,h2 _ _ hs'];rfl
  ·cases rs with
   |nil=>simpa[qqJ]using h
   |cons d ds=>
    simp only[qqJ]at h ⊢
    obtain⟨r,hr,h⟩:=Option.bind_eq_some_iff.1 h
    obtain⟨s,hs',rfl⟩:=Option.map_eq_some_iff.1 h
    rw[h2 _ _ hr,h3 _ _ hs'];rfl
theorem qnD{id:Nat}{o:Op}{d:D}{nb:Hp}(hs:Sub hp hq)(hρ:∀x∈o.operands,ρ x=ρ' x)(h:OpA P ρ hp id o d nb):OpA P ρ' hq id o d nb:=by
 unfold OpA at h ⊢
 split at h
 ·rename_i f args ts
  obtain⟨g,xs,ys,args',r,hf,hpur,hcon,hown,hw,hd,hnb⟩:=h
  have hargs:args.toList.map ρ=args.toList.map ρ':=qnC fun x hx=>hρ x (by simp[Op.operands,Call.operands,hx])
  refine⟨g,xs,ys,args',r,?_,?_,hcon,?_,hw,hd,hnb⟩
  ·rw[←hρ f (by simp[Op.operands,Call.operands])];exact hf
  ·rw[←hargs];exact(qrW hs 64).2.1 _ _ hpur
  ·rw[←hargs];exact hown
 ·rename_i t parts
  rw[←qkO (ρ:=ρ) (ρ':=ρ') fun x hx=>hρ x (by simpa[Op.operands]using hx)]
  exact h
 ·rcases h with⟨h,hnb⟩|⟨ptr,blk,h,hd,hnb⟩
  ·exact .inl ⟨by rw[←qoV hρ];exact qzd hs h,hnb⟩
  ·exact .inr ⟨ptr,blk,by rw[←qoW hρ];exact h,hd,hnb⟩
end
end Go.Pv
