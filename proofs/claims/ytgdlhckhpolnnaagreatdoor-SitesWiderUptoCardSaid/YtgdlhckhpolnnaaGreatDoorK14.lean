/- Part 15 of the proof (its last part says what is proved). No condition. -/
import Derived.Test.YtgdlhckhpolnnaaGreatDoorK13
namespace Go.Proofs.YtgdlhckhpolnnaaGreatDoor
set_option maxRecDepth 100000
set_option maxHeartbeats 8000000
open Go.RowKit Go.Proofs.Tryz
section
namespace Q
theorem qcm (n:Int)(h: -9223372036854775808≤n∧n≤9223372036854775807):IntKind.i64.wrap n=n:=by rw[IntKind.wrap_i64];omega
theorem bl {a b:Nat}(h:Nat.blt a b=true):a<b:=by simpa using h
theorem c3 {a b c:Nat}{d:Nat}(h:(Nat.blt 0 a&&Nat.ble a b&&Nat.ble c d)=true):0<a∧a≤b∧c≤d:=by simp only[gE] at h;exact⟨bl h.1.1,Nat.le_of_ble_eq_true h.1.2,Nat.le_of_ble_eq_true h.2⟩
theorem c2 {a b:Nat}{c:Bool}(h:(Nat.beq a b&&c)=true):a=b∧c=true:=by simp only[gE] at h;exact⟨Nat.eq_of_beq_eq_true h.1,h.2⟩
theorem d2 {a b:Nat}(h:(Nat.blt 0 a&&Nat.blt 0 b)=true):0<a∧0<b:=by simp only[gE] at h;exact⟨bl h.1,bl h.2⟩
theorem LT {N:Nat}:(∀v,Lt N (.s v)↔True)∧(Lt N .any↔True)∧(∀cs,Lt N (.agg cs)↔∀c∈cs,Lt N c)∧(∀cs,Lt N (.tup cs)↔∀c∈cs,Lt N c)∧(∀t x,Lt N (.ifc t x)↔Lt N x)∧(∀f cs,Lt N (.fn f cs)↔∀c∈cs,Lt N c)∧
 (∀k bw es,Lt N (.row k bw es none)↔∀e∈es,∀c∈e,Lt N c)∧(∀k bw es t,Lt N (.row k bw es (some t))↔(∀e∈es,∀c∈e,Lt N c)∧t<N)∧(∀e o,Lt N (.rp e o)↔∀c∈e,Lt N c)∧(∀i o,Lt N (.ptr i o)↔i<N)∧(∀i a b c,Lt N (.sl i a b c)↔i<N)∧∀i,Lt N (.mp i)↔i<N:=by
 refine⟨?_,?_,?_,?_,?_,?_,?_,?_,?_,?_,?_,?_⟩<;>intros<;>constructor<;>intro h;all_goals first|exact trivial|exact .s _|exact .any|exact .agg _ h|exact .tup _ h|exact .ifc _ _ h|exact .fn _ _ h|exact .rp _ _ h|exact .ptr _ _ h|exact .sl _ _ _ _ h|exact .mp _ h|exact .row _ _ _ _ h (fun _ e=>by cases e)|exact .row _ _ _ _ h.1 (fun _ e=>by cases e;exact h.2)|(cases h;assumption)|(cases h with|row _ _ _ _ h j=>exact⟨h,j _ rfl⟩)
theorem ik {α:Type}{p:α→Prop}:∀o∈([]:List α),p o:=fun _ h=>by cases h
theorem xz {α:Type}{p:α→Prop}{a:α}{l:List α}(h:p a)(hl:∀o∈l,p o):∀o∈a::l,p o:=fun o j=>by
 rcases fX.1 j with rfl|j;·exact h
 exact hl o j
structure VO (m:Option KT)(C:Cx)(ops:Array Oper)(Q:VQ)(l:List Oper)(T:VT)(H:List HO):Prop where
 out:match m with
  |none=>VL C ops Q l T H
  |some K=>VX C H ops (fun T' H'=>Q .normal T' H') l T K
def rt (m:Option KT)(o:Oper)(T:VT):VT:=match m with
 |none=>T
 |some _=>qcB (opl o) T
def md (f:Bool)(m:Option KT)(t:Tmp):Option KT:=match f,m with
 |false,m=>m
 |true,none=>none
 |true,some K=>some ((t,.fr)::K)
def ckP (m:Option KT)(o:Oper):Bool:=match m with
 |none=>true
 |some K=>(opl o).all fun u=>(qaD K u).isNone
def ckF (m:Option KT)(o:Oper):Bool:=match m with
 |none=>true
 |some K=>(opl o).all fun u=>!qdX (qaD K u)
def FF (m:Option KT)(o:Oper)(f:Bool):Prop:=match f with
 |false=>ckP m o=true
 |true=>ckF m o=true
theorem qbc {m:Option KT}{o:Oper}(h:ckP m o=true):FF m o false:=h
theorem qbb {m:Option KT}{o:Oper}(h:ckF m o=true):FF m o true:=h
section
variable {m:Option KT} {C:Cx} {Q:VQ} {T:VT} {H H':List HO} {ops:Array Oper} {l:List Oper} {t:Nat} {ty:TypeId} {pos:String} {af:Array Edge} {x y z:Operand} {p q r:V} {f:Bool}
theorem zl {o:Oper}(h:za C o (rt m o T) H p)(k:VO (md f m t) C ops Q l ((t,p)::T) H)(j:o.guard=none)(I:o.dst=some t)(J:t<C.n)(R:FF m o f):VO m C ops Q (o::l) T H:=by
 cases m with
 |none=>
  cases f with
  |false=>exact⟨qeS h.s k.out j I J⟩
  |true=>exact⟨qeS h.s k.out j I J⟩
 |some K=>
  cases f with
  |false=>exact⟨⟨p,t,K,⟨I,J,.inl ⟨j,.inl ⟨rfl,R,h⟩⟩⟩,k.out⟩⟩
  |true=>exact⟨⟨p,t,_,⟨I,J,.inl ⟨j,.inr (.inl ⟨rfl,R,h.d⟩)⟩⟩,k.out⟩⟩
theorem o_D {o:Oper}(h:OpD C o (rt m o T) H p)(k:VO (md true m t) C ops Q l ((t,p)::T) H)(j:o.guard=none)(I:o.dst=some t)(J:t<C.n)(R:ckF m o=true):VO m C ops Q (o::l) T H:=by
 cases m with
 |none=>exact⟨qiP h k.out j I J⟩
 |some K=>exact⟨⟨p,t,_,⟨I,J,.inl ⟨j,.inr (.inl ⟨rfl,R,h⟩)⟩⟩,k.out⟩⟩
theorem qhL (h:Q .normal T H):VO none C ops Q [] T H:=⟨qiO h⟩
theorem qiJ {K:KT}{j:VT}{o:List HO}(h:Q .normal j o)(I:fin K T H=(j,o):=by rfl):VO (some K) C ops Q [] T H:=⟨⟨T,fun _=>rfl,by rw[I];exact h⟩⟩
theorem qjc {K:KT}{a:TypeId}{z:Value}{zs:List Value}(k:VO (some ((t,.al a zs)::K)) C ops Q l ((t,.any)::T) H)(j:∀w,(zeroValue a).run C.P w=.ok z w:=by intro w;go_simp<;>with_reducible rfl)(o:z.cells.toList=zs:=by simp only[Value.cells];rfl)(I:Nat.blt t C.n=true:=by rfl):VO (some K) C ops Q (⟨some t,.alloc a,ty,pos,af,none⟩::l) T H:=
 ⟨⟨.any,t,_,⟨rfl,bl I,.inl ⟨rfl,.inr (.inr ⟨a,zs,rfl,rfl,fun ac w=>by subst o;simp[execOp,Instr.alloc,j,newVar,newRow]⟩)⟩⟩,k.out⟩⟩
theorem qje {j u:Nat}{want:Bool}{dst:Option Tmp}{op:Op}(k:VO m C ops Q (⟨dst,op,ty,pos,af,none⟩::l) T H)(I:(ops[j]?).bind (·.dst)=some u:=by rfl)(J:Oo T u=some (.s (.bool want)):=by rfl)(R:dst=some t:=by rfl)(Y:Nat.blt t C.n=true:=by rfl):VO m C ops Q (⟨dst,op,ty,pos,af,some (j,want)⟩::l) T H:=by
 cases m with
 |none=>exact⟨qfq J I R (bl Y) (fun _=>k.out) fun h=>absurd rfl h⟩
 |some K=>
  obtain⟨p,t',K1,⟨h1,h2,o⟩,h4⟩:=k.out;refine⟨⟨p,t',K1,⟨h1,h2,.inr ⟨j,want,.bool want,u,rfl,I,J,fun _=>?_,fun h=>absurd rfl h⟩⟩,h4⟩⟩;rcases o with ⟨_,o⟩|⟨_,_,_,_,o,_⟩;·exact o
  cases o
def qiH:Value→Bool→Bool
 |.bool b,w=>b !=w
 |_,_=>true
theorem qjd {j u:Nat}{gv:Value}{want:Bool}{dst:Option Tmp}{op:Op}(k:VO m C ops Q l ((t,.s undef)::T) H)(I:(ops[j]?).bind (·.dst)=some u:=by rfl)(J:Oo T u=some (.s gv):=by rfl)(o:qiH gv want=true:=by rfl)(R:dst=some t:=by rfl)(Y:Nat.blt t C.n=true:=by rfl):VO m C ops Q (⟨dst,op,ty,pos,af,some (j,want)⟩::l) T H:=by
 have hn:gv≠.bool want:=by rintro rfl;simp[qiH] at o
 cases m with
 |none=>exact⟨qfq J I R (bl Y) (fun h=>absurd h hn) fun _=>k.out⟩
 |some K=>exact⟨⟨.s undef,t,K,⟨R,bl Y,.inr ⟨j,want,gv,u,rfl,I,J,fun h=>absurd h hn,fun _=>⟨rfl,rfl⟩⟩⟩,k.out⟩⟩
theorem qfj {u:Nat}{b:Bool}(o:Oo T u=some (.s (.bool b)))(hy:b=true→VO m C ops Q l ((u,.s (.bool true))::T) H)(I:b=false→VO m C ops Q l ((u,.s (.bool false))::T) H):VO m C ops Q l T H:=by
 have key:∀ {c:Bool},b=c→∀t,Oo ((u,.s (.bool c))::T) t=Oo T t:=by(
 rintro c rfl t;simp only[Oo];split;·rename_i e;subst e;exact o.symm
 rfl)
 have go:∀ {c:Bool},b=c→VO m C ops Q l ((u,.s (.bool c))::T) H→VO m C ops Q l T H:=by
  intro c e h;cases m with
  |none=>exact⟨fun g a w j=>h.out g a w ⟨j.le,fun t x J=>j.tmps t x (by rw[←key e];exact J),j.hr,j.defers,j.size,j.nil⟩⟩
  |some K=>exact⟨qgO (key e) h.out⟩
 cases b with
 |true=>exact go rfl (hy rfl)
 |false=>exact go rfl (I rfl)
theorem qaF {j u:Nat}{want:Bool}{dst:Option Tmp}{op:Op}{s:Prop}{_:Decidable s}(hy:s→VO m C ops Q (⟨dst,op,ty,pos,af,some (j,want)⟩::l) ((u,.s (.bool true))::T) H)(o:¬s→VO m C ops Q (⟨dst,op,ty,pos,af,some (j,want)⟩::l) ((u,.s (.bool false))::T) H)(_:(ops[j]?).bind (·.dst)=some u:=by rfl)(I:Oo T u=some (.s (.bool (decide s))):=by rfl):VO m C ops Q (⟨dst,op,ty,pos,af,some (j,want)⟩::l) T H:=qfj I (fun h=>hy (of_decide_eq_true h)) fun h=>o (of_decide_eq_false h)
theorem qcy {j u:Nat}{want b:Bool}{dst:Option Tmp}{op:Op}(hy:b=true→VO m C ops Q (⟨dst,op,ty,pos,af,some (j,want)⟩::l) ((u,.s (.bool true))::T) H)(o:b=false→VO m C ops Q (⟨dst,op,ty,pos,af,some (j,want)⟩::l) ((u,.s (.bool false))::T) H)(_:(ops[j]?).bind (·.dst)=some u:=by rfl)(I:Oo T u=some (.s (.bool b)):=by rfl):VO m C ops Q (⟨dst,op,ty,pos,af,some (j,want)⟩::l) T H:=qfj I hy o
theorem qgo {id:Nat}(h:VO none C l.toArray (qcd (fun T H=>Q .normal T H) Q) l T H):VW C (.region id l.toArray false) Q T H:=qgM h.out
theorem qaW {id:Nat}(n:Nat)(h:VO (some []) C l.toArray (fun _ o H'=>VO none C l.toArray (qcd (fun T H=>Q .normal T H) Q) (l.drop n) o H') (l.take n) T H)
 (hm:C.P.follows .mixedOrders=true:=by kernel_rfl) (hB:qim l n=true:=by kernel_rfl) (I:ns .any l.toArray (qat (l.take n))=true:=by kernel_rfl) (j:pM l.toArray (qat (l.take n)) n=true:=by kernel_rfl) (J:qcR l.toArray (l.take n)=true:=by kernel_rfl):VW C (.region id l.toArray true) Q T H:=qir n (qiS (fun _ _ h=>h.out) h.out) hm (qfL hB) I j J
theorem qbu {s:Prop}{_:Decidable s}{c:Operand}{u v:Code}(j:s→VW C u Q T H)(o:¬s→VW C v Q T H)(I:ev T c=some (.s (.bool (decide s))):=by rfl):VW C (.cond c u v) Q T H:=qdy I (fun h=>j (of_decide_eq_true h)) fun h=>o (of_decide_eq_false h)
theorem qcg {b:Bool}{c:Operand}{u v:Code}(j:b=true→VW C u Q T H)(o:b=false→VW C v Q T H)(I:ev T c=some (.s (.bool b)):=by rfl):VW C (.cond c u v) Q T H:=qdy I j o
theorem qiK {c:Operand}{u v:Code}(j:VW C u Q T H)(o:ev T c=some (.s (.bool true)):=by rfl):VW C (.cond c u v) Q T H:=qdy o (fun _=>j) fun h=>by cases h
theorem qjf {c:Operand}{u v:Code}(j:VW C v Q T H)(o:ev T c=some (.s (.bool false)):=by rfl):VW C (.cond c u v) Q T H:=qdy o (fun h=>by cases h) fun _=>j
theorem qiB (k:VO (md f m t) C ops Q l ((t,p)::T) H)(o:ev (rt m ⟨some t,.move x,ty,pos,af,none⟩ T) x=some p:=by rfl)(I:Nat.blt t C.n=true:=by rfl)(j:FF m ⟨some t,.move x,ty,pos,af,none⟩ f:=by first|exact qbc rfl|exact qbb rfl):VO m C ops Q (⟨some t,.move x,ty,pos,af,none⟩::l) T H:=zl (qhp o) k rfl rfl (bl I) j
theorem qgR (k:VO (md f m t) C ops Q l ((t,p)::T) H)(o:ev (rt m ⟨some t,.assign x,ty,pos,af,none⟩ T) x=some p:=by rfl)(I:Nat.blt t C.n=true:=by rfl)(j:FF m ⟨some t,.assign x,ty,pos,af,none⟩ f:=by first|exact qbc rfl|exact qbb rfl):VO m C ops Q (⟨some t,.assign x,ty,pos,af,none⟩::l) T H:=zl (qfG o) k rfl rfl (bl I) j
theorem qiU {op:BinOp}{tx yt:TypeId}{u v r:Value}(k:VO (md f m t) C ops Q l ((t,.s r)::T) H)(o:ev (rt m ⟨some t,.binOp op tx x y yt,ty,pos,af,none⟩ T) x=some (.s u):=by rfl)(hy:ev (rt m ⟨some t,.binOp op tx x y yt,ty,pos,af,none⟩ T) y=some (.s v):=by rfl)(h:∀w,(binOp op tx u v).run C.P w=.ok r w:=by intro w;go_simp<;>first|(rw[qcm _ (by omega)];done)|(rw[qcm _ (by omega)];with_reducible rfl)|with_reducible rfl)(hu:qdu u=true:=by rfl)(I:Nat.blt t C.n=true:=by rfl)(j:FF m ⟨some t,.binOp op tx x y yt,ty,pos,af,none⟩ f:=by first|exact qbc rfl|exact qbb rfl):VO m C ops Q (⟨some t,.binOp op tx x y yt,ty,pos,af,none⟩::l) T H:=zl (qie o hy h hu) k rfl rfl (bl I) j
theorem qgS {op:BinOp}{tx yt:TypeId}{cs o:List V}{us vs:List Value}{r:Value}(k:VO (md f m t) C ops Q l ((t,.s r)::T) H)(I:ev (rt m ⟨some t,.binOp op tx x y yt,ty,pos,af,none⟩ T) x=some (.agg cs):=by rfl)(hy:ev (rt m ⟨some t,.binOp op tx x y yt,ty,pos,af,none⟩ T) y=some (.agg o):=by rfl)(hu:cs.mapM sOf=some us:=by rfl)(J:o.mapM sOf=some vs:=by rfl)(h:∀w,(binOp op tx (.agg us.toArray) (.agg vs.toArray)).run C.P w=.ok r w:=by intro w;go_simp<;>first|(rw[qcm _ (by omega)];done)|(rw[qcm _ (by omega)];with_reducible rfl)|with_reducible rfl)(R:∀w,(eqGuard op tx x y (.agg us.toArray) (.agg vs.toArray)).run C.P w=.ok () w:=by intro w;exact qfz _ _ (by kernel_rfl) w)(Y:Nat.blt t C.n=true:=by rfl)(j:FF m ⟨some t,.binOp op tx x y yt,ty,pos,af,none⟩ f:=by first|exact qbc rfl|exact qbb rfl):VO m C ops Q (⟨some t,.binOp op tx x y yt,ty,pos,af,none⟩::l) T H:=zl (qhh I hy hu J h R) k rfl rfl (bl Y) j
theorem qji {op:UnOp}{tx:TypeId}{u r:Value}(k:VO (md f m t) C ops Q l ((t,.s r)::T) H)(o:ev (rt m ⟨some t,.unOp op tx x,ty,pos,af,none⟩ T) x=some (.s u):=by rfl)(h:∀w,(Op.unary op u).run C.P w=.ok r w:=by intro w;go_simp<;>first|(rw[qcm _ (by omega)];done)|(rw[qcm _ (by omega)];with_reducible rfl)|with_reducible rfl)(I:Nat.blt t C.n=true:=by rfl)(j:FF m ⟨some t,.unOp op tx x,ty,pos,af,none⟩ f:=by first|exact qbc rfl|exact qbb rfl):VO m C ops Q (⟨some t,.unOp op tx x,ty,pos,af,none⟩::l) T H:=zl (qiL o h) k rfl rfl (bl I) j
theorem qiy {a d:TypeId}{u r:Value}(k:VO (md f m t) C ops Q l ((t,.s r)::T) H)(o:ev (rt m ⟨some t,.convert a d x,ty,pos,af,none⟩ T) x=some (.s u):=by rfl)(h:∀w,(convert a d u).run C.P w=.ok r w:=by intro w;go_simp<;>first|(rw[qcm _ (by omega)];done)|(rw[qcm _ (by omega)];with_reducible rfl)|with_reducible rfl)(I:Nat.blt t C.n=true:=by rfl)(j:FF m ⟨some t,.convert a d x,ty,pos,af,none⟩ f:=by first|exact qbc rfl|exact qbb rfl):VO m C ops Q (⟨some t,.convert a d x,ty,pos,af,none⟩::l) T H:=zl (qhk o h) k rfl rfl (bl I) j
theorem qhD {c:Operand}(k:VO (md f m t) C ops Q l ((t,p)::T) H)(o:ev (rt m ⟨some t,.pick c x y,ty,pos,af,none⟩ T) c=some (.s (.bool true)):=by rfl)(I:ev (rt m ⟨some t,.pick c x y,ty,pos,af,none⟩ T) x=some p:=by rfl)(J:Nat.blt t C.n=true:=by rfl)(j:FF m ⟨some t,.pick c x y,ty,pos,af,none⟩ f:=by first|exact qbc rfl|exact qbb rfl):VO m C ops Q (⟨some t,.pick c x y,ty,pos,af,none⟩::l) T H:=zl (qgu o I) k rfl rfl (bl J) j
theorem qhC {c:Operand}(k:VO (md f m t) C ops Q l ((t,p)::T) H)(o:ev (rt m ⟨some t,.pick c x y,ty,pos,af,none⟩ T) c=some (.s (.bool false)):=by rfl)(I:ev (rt m ⟨some t,.pick c x y,ty,pos,af,none⟩ T) y=some p:=by rfl)(J:Nat.blt t C.n=true:=by rfl)(j:FF m ⟨some t,.pick c x y,ty,pos,af,none⟩ f:=by first|exact qbc rfl|exact qbb rfl):VO m C ops Q (⟨some t,.pick c x y,ty,pos,af,none⟩::l) T H:=zl (qgt o I) k rfl rfl (bl J) j
theorem qeW {a:TypeId}{b:Bool}{n off:Nat}{cs:List V}(k:VO (md f m t) C ops Q l ((t,q)::T) H)(o:ev (rt m ⟨some t,.load a x,ty,pos,af,none⟩ T) x=some p:=by rfl)(I:qcn H p=some (cs,off):=by rfl)(J:∀w,(isAgg a).run C.P w=.ok b w:=by intro w;go_simp<;>with_reducible rfl)(R:∀w,(sizeOf a).run C.P w=.ok n w:=by intro w;go_simp<;>with_reducible rfl)(hy:vld b n cs off=some q:=by rfl)(Y:Nat.blt t C.n=true:=by rfl)(j:FF m ⟨some t,.load a x,ty,pos,af,none⟩ f:=by first|exact qbc rfl|exact qbb rfl):VO m C ops Q (⟨some t,.load a x,ty,pos,af,none⟩::l) T H:=zl (qho o I J R hy) k rfl rfl (bl Y) j
theorem qeo {a:TypeId}{i n:Nat}(k:VO (md f m t) C ops Q l ((t,q)::T) H)(I:ev (rt m ⟨some t,.fieldAddr a x i,ty,pos,af,none⟩ T) x=some p:=by rfl)(J:∀b o w,(Instr.fieldAt a (.pointer (some ⟨b,o,none⟩)) i).run C.P w=.ok (.pointer (some ⟨b,o+n,none⟩)) w:=by intro b o w;go_simp<;>with_reducible rfl)(R:qhO n p=some q:=by rfl)(Y:Nat.blt t C.n=true:=by rfl)(j:FF m ⟨some t,.fieldAddr a x i,ty,pos,af,none⟩ f:=by first|exact qbc rfl|exact qbb rfl):VO m C ops Q (⟨some t,.fieldAddr a x i,ty,pos,af,none⟩::l) T H:=zl (qdq I J R) k rfl rfl (bl Y) j
theorem qhB {a e:TypeId}{n:Nat}{o:IntKind}{i:Int}(k:VO (md f m t) C ops Q l ((t,q)::T) H)(I:ev (rt m ⟨some t,.indexAddr a x y,ty,pos,af,none⟩ T) x=some p:=by rfl)(hy:ev (rt m ⟨some t,.indexAddr a x y,ty,pos,af,none⟩ T) y=some (.s (.int o i)):=by rfl)(hu:∀w,(underlying a).run C.P w=.ok (.slice e) w:=by intro w;go_simp<;>first|with_reducible rfl|exact⟨rfl,rfl⟩)(J:∀w,(sizeOf e).run C.P w=.ok n w:=by intro w;go_simp<;>with_reducible rfl)(hi:0≤i:=by omega)(R:vat i.toNat n p=some q:=by simp only[vat,dP,cL,Option.map_some,if_true, *];rfl)(Y:Nat.blt t C.n=true:=by rfl)(j:FF m ⟨some t,.indexAddr a x y,ty,pos,af,none⟩ f:=by first|exact qbc rfl|exact qbb rfl):VO m C ops Q (⟨some t,.indexAddr a x y,ty,pos,af,none⟩::l) T H:=zl (qgs I hy hi hu J R) k rfl rfl (bl Y) j
theorem qiX {a e:TypeId}{n:Nat}(k:VO (md f m t) C ops Q l ((t,.s (.int .i64 n))::T) H)(o:ev (rt m ⟨some t,.call {callee:=.builtin .len,args:=#[x],argTypes:=#[a]},ty,pos,af,none⟩ T) x=some p:=by rfl)(hu:∀w,(underlying a).run C.P w=.ok (.slice e) w:=by intro w;go_simp<;>first|with_reducible rfl|exact⟨rfl,rfl⟩)(I:qhz p=some n:=by simp only[qhz,ce];rfl)(J:Nat.blt t C.n=true:=by rfl)(j:FF m ⟨some t,.call {callee:=.builtin .len,args:=#[x],argTypes:=#[a]},ty,pos,af,none⟩ f:=by first|exact qbc rfl|exact qbb rfl):VO m C ops Q (⟨some t,.call {callee:=.builtin .len,args:=#[x],argTypes:=#[a]},ty,pos,af,none⟩::l) T H:=zl (qih o hu I) k rfl rfl (bl J) j
theorem qiA {a:TypeId}{s:ByteArray}(k:VO (md f m t) C ops Q l ((t,.s (.int .i64 s.size))::T) H)(o:ev (rt m ⟨some t,.call {callee:=.builtin .len,args:=#[x],argTypes:=#[a]},ty,pos,af,none⟩ T) x=some (.s (.string s)):=by rfl)(hu:∀w,(underlying a).run C.P w=.ok .string w:=by intro w;go_simp<;>first|with_reducible rfl|exact⟨rfl,rfl⟩)(I:Nat.blt t C.n=true:=by rfl)(j:FF m ⟨some t,.call {callee:=.builtin .len,args:=#[x],argTypes:=#[a]},ty,pos,af,none⟩ f:=by first|exact qbc rfl|exact qbb rfl):VO m C ops Q (⟨some t,.call {callee:=.builtin .len,args:=#[x],argTypes:=#[a]},ty,pos,af,none⟩::l) T H:=zl (qhm o hu) k rfl rfl (bl I) j
theorem qfQ {xs:List V}{i:Nat}(k:VO (md f m t) C ops Q l ((t,q)::T) H)(o:ev (rt m ⟨some t,.extract x i,ty,pos,af,none⟩ T) x=some (.tup xs):=by rfl)(I:xs[i]? =some q:=by rfl)(J:Nat.blt t C.n=true:=by rfl)(j:FF m ⟨some t,.extract x i,ty,pos,af,none⟩ f:=by first|exact qbc rfl|exact qbb rfl):VO m C ops Q (⟨some t,.extract x i,ty,pos,af,none⟩::l) T H:=zl (qeH o I) k rfl rfl (bl J) j
theorem qiz {fn:Fn}{j:Array Operand}{ps:List V}(k:VO (md f m t) C ops Q l ((t,.fn fn ps)::T) H)(I:j.toList.mapM (ev (rt m ⟨some t,.makeFunc fn #[] j,ty,pos,af,none⟩ T))=some ps:=by rfl)(J:Nat.blt t C.n=true:=by rfl)(o:FF m ⟨some t,.makeFunc fn #[] j,ty,pos,af,none⟩ f:=by first|exact qbc rfl|exact qbb rfl):VO m C ops Q (⟨some t,.makeFunc fn #[] j,ty,pos,af,none⟩::l) T H:=zl (qhl I) k rfl rfl (bl J) o
theorem qiW {a:TypeId}(k:VO (md f m t) C ops Q l ((t,.ifc a p)::T) H)(o:ev (rt m ⟨some t,.makeInterface a x,ty,pos,af,none⟩ T) x=some p:=by rfl)(h:∀v w,(Instr.makeInterface a v).run C.P w=.ok (.iface a v) w:=by intro v w;go_simp<;>with_reducible rfl)(I:Nat.blt t C.n=true:=by rfl)(j:FF m ⟨some t,.makeInterface a x,ty,pos,af,none⟩ f:=by first|exact qbc rfl|exact qbb rfl):VO m C ops Q (⟨some t,.makeInterface a x,ty,pos,af,none⟩::l) T H:=zl (qig o h) k rfl rfl (bl I) j
theorem qgT {a kt et:TypeId}{d:TypeDesc}{es:List (MK×V)}{u zv:Value}{j:MK}(k:VO (md f m t) C ops Q l ((t,q)::T) H)(I:ev (rt m ⟨some t,.lookup a x y false,ty,pos,af,none⟩ T) x=some p:=by rfl)(hi:qcV H p=some (d,es):=by rfl)(hy:ev (rt m ⟨some t,.lookup a x y false,ty,pos,af,none⟩ T) y=some (.s u):=by rfl)(J:qem u=some j:=by rfl)(hu:∀w,(underlying a).run C.P w=.ok (.map kt et) w:=by intro w;go_simp<;>first|with_reducible rfl|exact⟨rfl,rfl⟩)(R:∀w,(underlying kt).run C.P w=.ok d w:=by intro w;go_simp<;>with_reducible rfl)(Y:∀w,(zeroValue et).run C.P w=.ok zv w:=by intro w;go_simp<;>with_reducible rfl)(ho:qbo d j=true:=by rfl)(hq:(qbn es j).getD (ofV zv)=q:=by(try simp only[*,Option.getD_some,Option.getD_none,ofV]);rfl)(ht:Nat.blt t C.n=true:=by rfl)(o:FF m ⟨some t,.lookup a x y false,ty,pos,af,none⟩ f:=by first|exact qbc rfl|exact qbb rfl):VO m C ops Q (⟨some t,.lookup a x y false,ty,pos,af,none⟩::l) T H:=zl (hq▸qfH I hi hy J ho hu R Y) k rfl rfl (bl ht) o
theorem qfR {a kt et:TypeId}{d:TypeDesc}{es:List (MK×V)}{u zv:Value}{j:MK}{b:Bool}(k:VO (md f m t) C ops Q l ((t,.tup [q,.s (.bool b)])::T) H)(I:ev (rt m ⟨some t,.lookup a x y true,ty,pos,af,none⟩ T) x=some p:=by rfl)(hi:qcV H p=some (d,es):=by rfl)(hy:ev (rt m ⟨some t,.lookup a x y true,ty,pos,af,none⟩ T) y=some (.s u):=by rfl)(J:qem u=some j:=by rfl)(hu:∀w,(underlying a).run C.P w=.ok (.map kt et) w:=by intro w;go_simp<;>first|with_reducible rfl|exact⟨rfl,rfl⟩)(R:∀w,(underlying kt).run C.P w=.ok d w:=by intro w;go_simp<;>with_reducible rfl)(Y:∀w,(zeroValue et).run C.P w=.ok zv w:=by intro w;go_simp<;>with_reducible rfl)(ho:qbo d j=true:=by rfl)(hq:(qbn es j).getD (ofV zv)=q:=by(try simp only[*,Option.getD_some,Option.getD_none,ofV]);rfl)(hb:(qbn es j).isSome=b:=by(try simp only[*]);rfl)(ht:Nat.blt t C.n=true:=by rfl)(o:FF m ⟨some t,.lookup a x y true,ty,pos,af,none⟩ f:=by first|exact qbc rfl|exact qbb rfl):VO m C ops Q (⟨some t,.lookup a x y true,ty,pos,af,none⟩::l) T H:=zl (hb▸hq▸qeI I hi hy J ho hu R Y) k rfl rfl (bl ht) o
theorem qhA {a:TypeId}{fl:Array (Nat×Operand)}{o:Array Field}{pl:Array (Nat×Nat)}{zv:Value}{ps:List (Nat×V)}{cs:List V}(k:VO (md f m t) C ops Q l ((t,.agg cs)::T) H)(hl:evp (rt m ⟨some t,.build a fl,ty,pos,af,none⟩ T) fl.toList=some ps:=by rfl)(hu:∀w,(underlying a).run C.P w=.ok (.struct o) w:=by intro w;go_simp<;>first|with_reducible rfl|exact⟨rfl,rfl⟩)(I:∀w,(o.mapM fun f=>do pure (f.offset,←sizeOf f.type):Sem _).run C.P w=.ok pl w:=by intro w;go_simp<;>with_reducible rfl)(J:∀w,(zeroValue a).run C.P w=.ok zv w:=by intro w;go_simp<;>with_reducible rfl)(R:qdf (pl[·]?) (zv.cells.toList.map .s) ps=some cs:=by simp[qdf,qaq,qbd,wr,Value.cells,Value.oneCell'];rfl)(Y:Nat.blt t C.n=true:=by rfl)(j:FF m ⟨some t,.build a fl,ty,pos,af,none⟩ f:=by first|exact qbc rfl|exact qbb rfl):VO m C ops Q (⟨some t,.build a fl,ty,pos,af,none⟩::l) T H:=zl (qgr hl hu I J R) k rfl rfl (bl Y) j
theorem qgU {a e:TypeId}{i:TypeInfo}{zv:Value}{n bw:Nat}{ps:List V}(k:VO (md true m t) C ops Q l ((t,.row n bw [ps] none)::T) H)(I:ev (rt m ⟨some t,.buildSlice a 1 #[(0,x)],ty,pos,af,none⟩ T) x=some p:=by rfl)(hu:∀w,(underlying a).run C.P w=.ok (.slice e) w:=by intro w;go_simp<;>first|with_reducible rfl|exact⟨rfl,rfl⟩)(hi:∀w,(typeInfo e).run C.P w=.ok i w:=by intro w;go_simp<;>with_reducible rfl)(J:i.zero=some zv:=by rfl)(R:i.size=n:=by rfl)(Y:i.bytes=bw:=by rfl)(j:zv.cells.size=n:=by rfl)(h0:(Nat.blt 0 n&&Nat.ble n 16777216&&Nat.ble bw 140737488355328)=true:=by rfl)(hp:qaq p=ps:=by simp only[qaq];rfl)(h1:(Nat.beq (qaq p).length n&&(qaq p).all qbd)=true:=by rfl)(ht:Nat.blt t C.n=true:=by rfl)(o:ckF m ⟨some t,.buildSlice a 1 #[(0,x)],ty,pos,af,none⟩=true:=by rfl):VO m C ops Q (⟨some t,.buildSlice a 1 #[(0,x)],ty,pos,af,none⟩::l) T H:=o_D (hp▸qfI I hu hi J R Y j (c3 h0) (c2 h1)) k rfl rfl (bl ht) o
theorem qgV {a e:TypeId}{n bw lo hi:Nat}{es j:List (List V)}{tok:Option Nat}{lx hy:Option Operand}(k:VO (md f m t) C ops Q l ((t,.row n bw j none)::T) H)(R:ev (rt m ⟨some t,.slice a x lx hy none,ty,pos,af,none⟩ T) x=some (.row n bw es tok):=by rfl)(o:bnd (rt m ⟨some t,.slice a x lx hy none,ty,pos,af,none⟩ T) lx lo 0:=by rfl)(I:bnd (rt m ⟨some t,.slice a x lx hy none,ty,pos,af,none⟩ T) hy hi es.length:=by rfl)(hu:∀w,(underlying a).run C.P w=.ok (.slice e) w:=by intro w;go_simp<;>first|with_reducible rfl|exact⟨rfl,rfl⟩)(Y:∀w,(sizeOf e).run C.P w=.ok n w:=by intro w;go_simp<;>with_reducible rfl)(hle:lo≤hi∧hi≤es.length:=by(try simp only[ce]);omega)(he:(es.take hi).drop lo=j:=by simp only[List.drop_zero,dZ];rfl)(ht:Nat.blt t C.n=true:=by rfl)(J:FF m ⟨some t,.slice a x lx hy none,ty,pos,af,none⟩ f:=by first|exact qbc rfl|exact qbb rfl):VO m C ops Q (⟨some t,.slice a x lx hy none,ty,pos,af,none⟩::l) T H:=zl (he▸qfJ R o I hle hu Y rfl) k rfl rfl (bl ht) J
theorem qeq {a:TypeId}{i:Nat}{j:TypeId}{cs:List V}(k:VO none C ops Q l T H')(o:ev T x=some (.ptr i 0):=by rfl)(hi:H[i]? =some (.cells j cs):=by rfl)(hy:ev T y=some q:=by rfl)(hl:(qaq q).length=cs.length:=by rfl)(h1:(qaq q).all qbd=true:=by rfl)(I:∀w,(sizeOf a).run C.P w=.ok (qaq q).length w:=by intro w;go_simp<;>rfl)(hH:H.set i (.cells j (qaq q))=H':=by simp only[ga,List.cons_append,mF,kI,List.length_nil,Nat.reduceAdd,qaq,wr];rfl):VO none C ops Q (⟨none,.store a x y,ty,pos,af,none⟩::l) T H:=⟨qgL (hH▸qgX hl▸qed o hi hy h1 I (by rw[hl];omega)) k.out⟩
theorem qfs {a:TypeId}{i off:Nat}{j:TypeId}{cs:List V}(k:VO none C ops Q l T H')(o:ev T x=some (.ptr i off):=by rfl)(hi:H[i]? =some (.cells j cs):=by rfl)(hy:ev T y=some q:=by rfl)(h1:(qaq q).all qbd=true:=by rfl)(I:∀w,(sizeOf a).run C.P w=.ok (qaq q).length w:=by intro w;go_simp<;>rfl)(hl:Nat.ble (off+(qaq q).length) cs.length=true:=by rfl)(hH:H.set i (.cells j (wr cs off (qaq q)))=H':=by simp only[ga,List.cons_append,mF,kI,List.length_nil,Nat.reduceAdd,qaq,wr];rfl):VO none C ops Q (⟨none,.store a x y,ty,pos,af,none⟩::l) T H:=⟨qgL (hH▸qed o hi hy h1 I (Nat.le_of_ble_eq_true hl)) k.out⟩
theorem qfr {a:TypeId}{z:Value}{i:Nat}{cs:List V}(k:VO none C ops Q l ((t,.ptr i 0)::T) H')(j:∀w,(zeroValue a).run C.P w=.ok z w:=by intro w;go_simp<;>with_reducible rfl)(hi:H.length=i:=by simp only[kI,List.length_nil,Nat.reduceAdd];rfl)(o:z.cells.toList.map .s=cs:=by simp only[Value.cells,List.map_cons,List.map_nil];rfl)(hH:H++[.cells a cs]=H':=by simp only[List.cons_append,mF];rfl)(I:Nat.blt t C.n=true:=by rfl):VO none C ops Q (⟨some t,.alloc a,ty,pos,af,none⟩::l) T H:=⟨qeS (H':=H') (hH▸hi▸o▸qgq j) k.out rfl rfl (bl I)⟩
theorem qiV {a:TypeId}{i:Nat}{cs:List V}(k:VO none C ops Q l ((t,.ptr i 0)::T) H')(j:ev T x=some p:=by rfl)(h1:(qaq p).all qbd=true:=by rfl)(hi:H.length=i:=by simp only[kI,List.length_nil,Nat.reduceAdd];rfl)(o:qaq p=cs:=by simp only[qaq];rfl)(hH:H++[.cells a cs]=H':=by simp only[List.cons_append,mF];rfl)(I:Nat.blt t C.n=true:=by rfl):VO none C ops Q (⟨some t,.box a x,ty,pos,af,none⟩::l) T H:=⟨qeS (H':=H') (hH▸hi▸o▸qif j h1) k.out rfl rfl (bl I)⟩
theorem qfS {a kt et:TypeId}{d:TypeDesc}{i:Nat}(k:VO none C ops Q l ((t,.mp i)::T) H')(hu:∀w,(underlying a).run C.P w=.ok (.map kt et) w:=by intro w;go_simp<;>first|with_reducible rfl|exact⟨rfl,rfl⟩)(j:∀w,(underlying kt).run C.P w=.ok d w:=by intro w;go_simp<;>with_reducible rfl)(hi:H.length=i:=by simp only[kI,List.length_nil,Nat.reduceAdd];rfl)(hH:H++[.map d []]=H':=by simp only[List.cons_append,mF];rfl)(o:Nat.blt t C.n=true:=by rfl):VO none C ops Q (⟨some t,.makeMap a none,ty,pos,af,none⟩::l) T H:=⟨qeS (H':=H') (hH▸hi▸qeJ hu j) k.out rfl rfl (bl o)⟩
theorem qep {a kt et:TypeId}{d:TypeDesc}{i:Nat}{es:List (MK×V)}{u:Value}{j:MK}(k:VO none C ops Q l T H')(o:ev T x=some (.mp i):=by rfl)(hi:H[i]? =some (.map d es):=by rfl)(hy:ev T y=some (.s u):=by rfl)(I:qem u=some j:=by rfl)(J:ev T z=some q:=by rfl)(hu:∀w,(underlying a).run C.P w=.ok (.map kt et) w:=by intro w;go_simp<;>first|with_reducible rfl|exact⟨rfl,rfl⟩)(R:∀w,(underlying kt).run C.P w=.ok d w:=by intro w;go_simp<;>with_reducible rfl)(Y:qbo d j=true:=by rfl)(hH:H.set i (.map d (qbt es j q))=H':=by simp only[ga,List.cons_append,mF,kI,List.length_nil,Nat.reduceAdd,qaq,wr];rfl):VO none C ops Q (⟨none,.mapUpdate a x y z,ty,pos,af,none⟩::l) T H:=⟨qgL (hH▸qdr o hi hy I Y J hu R) k.out⟩
theorem qgQ {a e:TypeId}{i:TypeInfo}{zv:Value}{j n bw J:Nat}{es o:List (List V)}{I:Option Nat}(k:VO none C ops Q l ((t,(.row n bw (es++o) (some j)))::T) H')(Y:ev T x=some (.row n bw es (some j)):=by rfl)(hj:H[j]? =some (.tok e n es.length):=by rfl)(hy:ev T y=some (.row n J o I):=by rfl)(hu:∀w,(underlying a).run C.P w=.ok (.slice e) w:=by intro w;go_simp<;>first|with_reducible rfl|exact⟨rfl,rfl⟩)(hi:∀w,(typeInfo e).run C.P w=.ok i w:=by intro w;go_simp<;>with_reducible rfl)(hz:i.zero=some zv:=by rfl)(hk:i.size=n:=by rfl)(hb:i.bytes=bw:=by rfl)(R:zv.cells.size=n:=by rfl)(h0:(Nat.blt 0 n&&Nat.blt 0 bw)=true:=by rfl)(h1:∀x∈o.flatten,qbd x=true:=by simp[qbd,Value.oneCell'])(hlen:(es.length+o.length)*bw≤140737488355328:=by simp only[ce,kI,List.length_nil];omega)(hH:H.set j (.tok e n (es.length+o.length))=H':=by simp only[ga,kI,List.length_nil,Nat.reduceAdd];rfl)(ht:Nat.blt t C.n=true:=by rfl):VO none C ops Q (⟨some t,.call {callee:=.builtin .append,args:=#[x,y],argTypes:=#[a,a]},ty,pos,af,none⟩::l) T H:=⟨qeS (H':=H') (hH▸qfF Y hj hy hu hi hz hk hb R (d2 h0) h1 hlen) k.out rfl rfl (bl ht)⟩
theorem qfP {a e:TypeId}{i:TypeInfo}{zv:Value}{j n bw J:Nat}{o:List (List V)}{I:Option Nat}(k:VO none C ops Q l ((t,(.row n bw o (some j)))::T) H')(Y:ev T x=some (.s (.slice none 0 0)):=by rfl)(hy:ev T y=some (.row n J o I):=by rfl)(hu:∀w,(underlying a).run C.P w=.ok (.slice e) w:=by intro w;go_simp<;>first|with_reducible rfl|exact⟨rfl,rfl⟩)(hi:∀w,(typeInfo e).run C.P w=.ok i w:=by intro w;go_simp<;>with_reducible rfl)(hz:i.zero=some zv:=by rfl)(hk:i.size=n:=by rfl)(hb:i.bytes=bw:=by rfl)(R:zv.cells.size=n:=by rfl)(h0:(Nat.blt 0 n&&Nat.blt 0 bw)=true:=by rfl)(h1:∀x∈o.flatten,qbd x=true:=by simp[qbd,Value.oneCell'])(hlen:o.length*bw≤140737488355328:=by simp only[ce,kI,List.length_nil];omega)(hl:H.length=j:=by simp only[kI,List.length_nil,Nat.reduceAdd];rfl)(hH:H++[.tok e n o.length]=H':=by simp only[List.cons_append,mF,kI,List.length_nil,Nat.reduceAdd];rfl)(ht:Nat.blt t C.n=true:=by rfl):VO none C ops Q (⟨some t,.call {callee:=.builtin .append,args:=#[x,y],argTypes:=#[a,a]},ty,pos,af,none⟩::l) T H:=⟨qeS (H':=H') (hH▸hl▸qeG Y hy hu hi hz hk hb R (d2 h0) h1 hlen) k.out rfl rfl (bl ht)⟩
end
structure Hx (R:Prop):Prop where
 out:R
theorem st {R G:Prop}(r:R)(h:Hx R→G:=by intro r;(repeat' (first|refine qhN ?_|refine qgo ?_|refine qhL ?_|refine qhy ?_|refine qis ?_|refine qiK ?_|refine qjf ?_|refine qje ?_|refine qjd ?_|refine qjc ?_|refine qiJ ?_|refine qiB ?_|refine qgR ?_|refine qiU ?_|refine qgS ?_|refine qji ?_|refine qiy ?_|refine qhD ?_|refine qhC ?_|refine qeW ?_|refine qeo ?_|refine qhB ?_|refine qiX ?_|refine qfQ ?_|refine qiz ?_|refine qiW ?_|refine qgT ?_|refine qfR ?_|refine qhA ?_|refine qgU ?_|refine qgV ?_|refine qeq ?_|refine qfs ?_|refine qfr ?_|refine qiV ?_|refine qfS ?_|refine qep ?_|refine qgQ ?_|refine qfP ?_|refine qiA ?_));exact r.out):G:=h ⟨r⟩
end Q
end
section
namespace Q
inductive Ro (H:List HO):V→V→Prop
 |lt (x:V) (h:Lt 0 x):Ro H x x
 |row (k bw:Nat) (es:List (List V)) (tok:Option Nat) (h:∀e∈es,∀c∈e,Lt 0 c):Ro H (.row k bw es tok) (.row k bw es none)
 |agg (cs ds:List V) (hl:cs.length=ds.length) (h:∀(i:Nat) c d,cs[i]? =some c→ds[i]? =some d→Ro H c d):Ro H (.agg cs) (.agg ds)
 |tup (cs ds:List V) (hl:cs.length=ds.length) (h:∀(i:Nat) c d,cs[i]? =some c→ds[i]? =some d→Ro H c d):Ro H (.tup cs) (.tup ds)
 |fn (f:Fn) (cs ds:List V) (hl:cs.length=ds.length) (h:∀(i:Nat) c d,cs[i]? =some c→ds[i]? =some d→Ro H c d):Ro H (.fn f cs) (.fn f ds)
 |ptr (i off:Nat) (ty:TypeId) (cs ds:List V) (hi:H[i]? =some (.cells ty cs)) (hl:cs.length=ds.length) (h:∀(i:Nat) c d,cs[i]? =some c→ds[i]? =some d→Ro H c d):Ro H (.ptr i off) (.rp ds off)
 |mp (i:Nat) (d:TypeDesc) (es:List (MK×V)) (hi:H[i]? =some (.map d es)) (h:∀e∈es,Lt 0 e.2):Ro H (.mp i) (.rmap d es)
def yc (H:List HO)(cs j:List V):Prop:=cs.length=j.length∧∀(i:Nat) c d,cs[i]? =some c→j[i]? =some d→Ro H c d
section
variable {g g':Gh} {w:World} {H:List HO}
theorem yc.nil:yc H [] []:=⟨rfl,fun i c d h=>by simp at h⟩
theorem yc.cons {c d:V}{cs o:List V}(h:Ro H c d)(C:yc H cs o):yc H (c::cs) (d::o):=by
 refine⟨by simp[C.1],fun i x y h1 j=>?_⟩;cases i with
 |zero=>simp at h1 j;subst h1 j;exact h
 |succ i=>simp at h1 j;exact C.2 i x y h1 j
theorem Ro.rep {x y:V}(hr:HR g w H)(h1:∀b o,g.fz b o→g'.fz b o)(h2:∀i b,g.own i b→∀o,g'.fz b o)(h:Ro H x y):∀ {v:Value},VR g w x v→VR g' w y v:=by
 have cut:Le0 (g.cut 0) w g' w:=⟨fun b o h=>⟨h1 b o h,rfl⟩,fun i b h=>by simp[Gh.cut] at h,fun i u n h=>by simp[Gh.cut] at h,fun _ _=>rfl⟩;induction h with
 |lt x h=>exact fun I=>(I.cut h).le0 cut
 |row k bw es tok h=>
  intro v I;have a6:VR g w (.row k bw es none) v:=by
   cases I with
   |row _ _ _ _ a c f h1 h2 h3 hk ha hr ht=>exact .row k bw es none a c f h1 h2 h3 hk ha hr fun _ e=>by cases e
  exact(a6.cut (.row k bw es none h fun _ e=>by cases e)).le0 cut
 |agg cs Y hl _ ih=>
  intro v I;cases I with
  |agg _ vs J h=>refine .agg Y vs (hl.symm.trans J) fun i d u R hu=>?_;have C:=(lS.1 R).1;exact ih i _ d (lG (hl▸C)) R (h i _ u (lG (hl▸C)) hu)
 |tup cs Y hl _ ih=>
  intro v I;cases I with
  |tup _ vs J h=>refine .tup Y vs (hl.symm.trans J) fun i d u R hu=>?_;have C:=(lS.1 R).1;exact ih i _ d (lG (hl▸C)) R (h i _ u (lG (hl▸C)) hu)
 |fn f cs Y hl _ ih=>
  intro v I;cases I with
  |fn _ _ vs J h=>refine .fn f Y vs (hl.symm.trans J) fun i d u R hu=>?_;have C:=(lS.1 R).1;exact ih i _ d (lG (hl▸C)) R (h i _ u (lG (hl▸C)) hu)
 |ptr i off ty cs Y hi hl _ ih=>
  intro v I;cases I with
  |ptr _ _ b hb=>
   obtain⟨b',us,⟨k1,_⟩,k2,k3,_⟩:=hr.objs i _ hi;rw[hb] at k1;cases k1;have hlen:us.length=Y.length:=by rw[←k3.1,hl]
   have:=VR.rp (g:=g') (w:=w) Y off b 0 (fun j=>us.getD j undef) (fun j hj=>⟨h2 i b (.inl hb) _,by
    rw[cN,k2.cell];simp[lG (hlen▸hj)]⟩) (fun j d R=>by
    have C:=(lS.1 R).1;have hc:=lG (hl▸C);obtain⟨u,e1,e2⟩:=k3.get hc;simpa [iG,e1] using ih j _ d hc R e2)
   rwa [cN] at this
 |mp i d es hi h=>
  intro v I;cases I with
  |mp _ b hb=>obtain⟨b',a1,clock,⟨k1,_⟩,k2,⟨⟨m1,m2,_,_⟩,m5⟩,_⟩:=hr.objs i _ hi;rw[hb] at k1;cases k1;exact .rmap d es b a1 clock (h2 i b (.inl hb)) k2 m1 (fun j x e hx he=>(m2 j x e hx he).1) m5 fun j x e hx he=>((m2 j x e hx he).2.cut (h x (mG hx))).le0 cut
theorem yc.rep {xs I:List V}{vs:List Value}(hr:HR g w H)(h1:∀b o,g.fz b o→g'.fz b o)(Y:∀i b,g.own i b→∀o,g'.fz b o)(h:yc H xs I)(J:da g w xs vs):da g' w I vs:=
 ⟨h.1.symm.trans J.1,fun i y v hy j=>by have C:=(lS.1 hy).1;have R:=lG (h.1▸C);exact(h.2 i _ y R hy).rep hr h1 Y (J.2 i _ v R j)⟩
end
def qcM (o:List Tmp)(Q:V→Prop):VQ:=fun e T H=>(e=.ret∨e=.normal)∧∃xs j,o.mapM (Oo T)=some xs∧yc H xs j∧Q (qeU j)
theorem IF {P:Program}{f:FuncId}{fn:Func}{c:Code}{xs:List V}{Q:V→Prop}(R:VQ)(hf:P.funcs[f]? =some fn)(I:fn.body=some c){n:Nat}(hm:fn.ntmps=n)(hk:Nat.ble xs.length n=true){g:Gh}{w:World}
 (hR:∀ {g' a w' e T H},SR ⟨P,g,w,[],n,0⟩ g' w' a T H→R e T H→(e=.ret∨e=.normal)∧∃xs ys us,da g' w' xs us∧yc H xs ys∧Q (qeU ys)∧(results fn a.tmps).run P w'=.ok (qjS us) w')
 {vs:List Value} (hh:HR g w []) (hx:da g w xs vs) (h:VW ⟨P,g,w,[],n,0⟩ c R (T0 0 xs) []):Calls P f vs.toArray w fun e w'=>∃v x g' H',e=.returned v∧(Q x∧H'=[])∧VR g' w' x v∧Le g w g' w'∧HR g' w' H':=by
 subst hm;have hn:=Nat.le_of_ble_eq_true hk;refine calls_of_wp hf I (wp_mono (h.out g _ w ⟨Le.refl _ _,fun t x ht=>?_,hh,rfl,?_,hh.nil⟩) ?_);·obtain⟨_,h2⟩:=qfe xs 0 t x ht;obtain⟨v,h3,h4⟩:=hx.get h2;refine⟨v,?_,h4⟩;have a1:=(lS.1 h3).1;rw[Array.getElem?_append_left (by simpa using a1)];simpa using h3
 ·simp[←hx.1];omega
 rintro e a w' ⟨g',T,H1,C,a6⟩;obtain⟨he,a8,ys,us,hv,h2,h3,e1⟩:=hR C a6;have J:∀i b,¬g.own i b:=fun i b hi=>by
  have:=hh.nil i (Nat.zero_le _);rcases hi with hi|⟨v,n,hi,_⟩;·rw[this.1] at hi;cases hi
  rw[this.2] at hi;cases hi
 let G:Gh:=⟨fun _=>none,fun b o=>g'.fz b o∨w.heap.size≤b∧b<w'.heap.size,fun _=>none⟩
 have a7:da G w' ys us:=h2.rep C.hr (fun b o h=>.inl h) (fun i b hi o=>.inr ⟨(C.le.own i b hi).resolve_left (J i b),(qaz C.hr hi).1⟩) hv;have hle:Le g w G w':=⟨C.le.os,C.le.output,C.le.size,fun b o h=>⟨.inl (C.le.fz b o h).1,(C.le.fz b o h).2⟩,fun i b hi=>absurd (.inl hi) (J i b),fun i u n hi=>absurd (hi.symm.trans (hh.nil i (Nat.zero_le _)).2) (by simp),C.le.fzb,C.le.kept,fun i b hi=>(by rcases hi with hi|⟨v,n,hi,_⟩<;>simp[G] at hi),fun b o I=>I.elim (fun I=>C.le.fzn b o I) fun I=>.inr (.inl I.1)⟩;have hH:HR G w' []:=⟨fun i o h=>by simp at h,fun i _=>⟨rfl,rfl⟩,fun i j b hi=>(by rcases hi with hi|⟨v,n,hi,_⟩<;>simp[G] at hi),fun b o I=>I.elim (fun I=>C.hr.lt b o I) fun I=>I.2⟩;have Y:a.defers=[]∧∃v,(results fn a.tmps).run P w'=.ok v w'∧∃v' x g' H',Ending.returned v=.returned v'∧(Q x∧H'=[])∧VR g' w' x v'∧Le g w g' w'∧HR g' w' H':=⟨C.defers,_,e1,_,_,G,[],rfl,⟨h3,rfl⟩,qjX a7,hle,hH⟩;rcases he with rfl|rfl<;>exact Y
theorem qde {P:Program}{f:FuncId}{fn:Func}{c:Code}{xs:List V}{Q:V→Prop}(j:List Tmp)(C:P.funcs[f]? =some fn)(I:fn.body=some c)(hr:fn.results=(j.map .tmp).toArray){n:Nat}(hm:fn.ntmps=n)(J:Nat.ble xs.length n=true)
 {g:Gh} {w:World} {vs:List Value} (R:HR g w []) (Y:da g w xs vs) (h:VW ⟨P,g,w,[],n,0⟩ c (qcM j Q) (T0 0 xs) []):Calls P f vs.toArray w fun e w'=>∃v x g' H',e=.returned v∧(Q x∧H'=[])∧VR g' w' x v∧Le g w g' w'∧HR g' w' H':=
 IF (qcM j Q) C I hm J (fun hs hR=>by obtain⟨he,o,ys,h1,h2,h3⟩:=hR;exact⟨he,o,ys,_,qdc hs j o h1,h2,h3,qjO hr (IA P _ _ j)⟩) R Y h
def qjQ (n:Nat)(b:Tmp)(o:List Tmp)(Q:V→Prop):VQ:=fun e T H=>(e=.ret∨e=.normal)∧∃i ty cs xs j,Oo T b=some (.ptr i 0)∧H[i]? =some (.cells ty cs)∧cs.length=n∧o.mapM (Oo T)=some xs∧yc H (.agg cs::xs) j∧Q (qeU j)
theorem qkj {P:Program}{f:FuncId}{fn:Func}{c:Code}{xs:List V}{Q:V→Prop}{m:Nat}{ty:TypeId}(b:Tmp)(C:List Tmp)(hf:P.funcs[f]? =some fn)(hb:fn.body=some c)(hr:fn.results=(.cell b ty::C.map .tmp).toArray){n:Nat}(hm:fn.ntmps=n)(J:∀w,(isAgg ty).run P w=.ok true w)(R:∀w,(sizeOf ty).run P w=.ok m w)(hk:Nat.ble xs.length n=true)
 {g:Gh} {w:World} {vs:List Value} (hh:HR g w []) (hx:da g w xs vs) (h:VW ⟨P,g,w,[],n,0⟩ c (qjQ m b C Q) (T0 0 xs) []):Calls P f vs.toArray w fun e w'=>∃v x g' H',e=.returned v∧(Q x∧H'=[])∧VR g' w' x v∧Le g w g' w'∧HR g' w' H':=
 IF (qjQ m b C Q) hf hb hm hk (fun {g' a w' e T H} Y hR=>by
  obtain⟨he,i,a1,cs,I,ys,h1,h2,h3,h4,h5,h6⟩:=hR;obtain⟨v,e1,e2⟩:=Y.tmps b _ h1;have ed:a.tmps.getD b undef=v:=by simp[Array.getD_eq_getD_getElem?,e1]
  cases e2 with
  |ptr _ _ q hq=>
   obtain⟨q',us,⟨k1,_⟩,k2,k3,_⟩:=Y.hr.objs i _ h2;rw[hq] at k1;cases k1;have o:(loadVar ty ⟨q,0,none⟩).run P w'=.ok (.agg us.toArray) w':=by have hl:=run_loadCells_list (P:=P) w' ⟨q,0,none⟩ us (fun j v hj=>by rw[Addr.add_mid,k2.cell];simpa using hj);rw[←k3.1,h3] at hl;simp[loadVar,J,R,hl]
   refine⟨he,.agg cs::I,ys,.agg us.toArray::C.map (fun t=>a.tmps.getD t undef),da.cons (.agg _ _ k3.1 k3.2) (qdc Y C I h4),h5,h6,qjO hr ?_⟩;have:=IA P a.tmps w' C;simp only[List.mapM_cons,qfm,ed,asAddr,Sem.run_bind,Sem.run_pure,Result.andThen_ok,o,this]) hh hx h
theorem qaT {P:Program}{f:FuncId}{fn:Func}{c:Code}{xs:List V}{Q:V→Prop}(j:List Tmp)(o:P.funcs[f]? =some fn)(C:fn.body=some c)(hr:fn.results=(j.map .tmp).toArray){n:Nat}(hm:fn.ntmps=n)(I:Nat.ble xs.length n=true)
 (h:∀g w,VW ⟨P,g,w,[],n,0⟩ c (qcM j Q) (T0 0 xs) []):VF P f xs Q:=fun g w _ J R=>qde j o C hr hm I J R (h g w)
def VFL (L:World→Prop)(P:Program)(f:FuncId)(xs:List V)(Q:V→Prop):Prop:=∀w,L w→VFw w P f xs Q
theorem HR.none {g:Gh}{w:World}(h:HR g w [])(i b:Nat):¬g.own i b:=fun hi=>by
 have:=h.nil i (Nat.zero_le _);rcases hi with hi|⟨v,n,hi,_⟩;·rw[this.1] at hi;cases hi
 rw[this.2] at hi;cases hi
theorem Le.all {g g':Gh}{w w':World}(h:Le g w g' w')(j:∀i b,¬g.own i b):aa All w w':=⟨h.os,h.output,h.size,fun b o _=>h.kept b o fun i=>j i b⟩
theorem qbW {L:World→Prop}{P:Program}{f:FuncId}{fn:Func}{c:Code}{xs:List V}{Q:V→Prop}(j:List Tmp)(C:P.funcs[f]? =some fn)(I:fn.body=some c)(hr:fn.results=(j.map .tmp).toArray){n:Nat}(hm:fn.ntmps=n)(J:Nat.ble xs.length n=true)
 (h:∀g w,L w→(∀g' w',Le g w g' w'→aa All w w')→VW ⟨P,g,w,[],n,0⟩ c (qcM j Q) (T0 0 xs) []):VFL L P f xs Q:=fun w R g _ o Y=>qde j C I hr hm J o Y (h g w R fun _ _ hl=>hl.all o.none)
theorem qjV {L:World→Prop}{P:Program}{f:FuncId}{fn:Func}{c:Code}{xs:List V}{Q:V→Prop}{m:Nat}{ty:TypeId}(b:Tmp)(j:List Tmp)(J:P.funcs[f]? =some fn)(R:fn.body=some c)(hr:fn.results=(.cell b ty::j.map .tmp).toArray){n:Nat}(hm:fn.ntmps=n)(o:∀w,(isAgg ty).run P w=.ok true w)(C:∀w,(sizeOf ty).run P w=.ok m w)(Y:Nat.ble xs.length n=true)
 (h:∀g w,L w→(∀g' w',Le g w g' w'→aa All w w')→VW ⟨P,g,w,[],n,0⟩ c (qjQ m b j Q) (T0 0 xs) []):VFL L P f xs Q:=fun w hL g _ I hx=>qkj b j J R hr hm o C Y I hx (h g w hL fun _ _ hl=>hl.all I.none)
def qfb:V→Bool
 |.s _=>true
 |.tup cs=>cs.all fun|.s _=>true|_=>false
 |.agg cs=>cs.all fun|.s _=>true|_=>false
 |_=>false
theorem qge {g g':Gh}{w w':World}{x:V}{v:Value}(h:VR g w x v)(j:qfb x=true):VR g' w' x v:=by
 have key:∀(cs:List V) (vs:List Value),(cs.all fun|.s _=>true|_=>false)=true→(∀(i:Nat) c v,cs[i]? =some c→vs[i]? =some v→VR g w c v)→∀(i:Nat) c v,cs[i]? =some c→vs[i]? =some v→VR g' w' c v:=by intro cs vs C h i c v o I;have:=List.all_eq_true.1 C c (mG o);have J:=h i c v o I;cases c<;>simp at this;cases J;exact .s _
 cases h with
 |s v=>exact .s v
 |tup cs vs hl h=>exact .tup cs vs hl (key cs vs j h)
 |agg cs vs hl h=>exact .agg cs vs hl (key cs vs j h)
 |_=>cases j
theorem VF.lend {P:Program}{f:FuncId}{xs J:List V}{R:V→Prop}{H:List HO}(h:VF P f J R)(hl:yc H xs J)(hf:∀x,R x→qfb x=true){g:Gh}{w:World}{vs:List Value}(I:HR g w H)(hv:da g w xs vs):Calls P f vs.toArray w fun e w'=>∃v x,e=.returned v∧R x∧aa All w w'∧VR (g.frz w.heap.size w') w' x v:=by
 let G:Gh:=⟨fun _=>none,fun b _=>b<w.heap.size,fun _=>none⟩
 have C:∀i b,¬G.own i b:=fun i b hi=>by rcases hi with hi|⟨v,n,hi,_⟩<;>simp[G] at hi
 have h0:HR G w []:=⟨fun i o h=>by simp at h,fun i _=>⟨rfl,rfl⟩,fun i j b hi=>absurd hi (C i b),fun b o h=>h⟩;refine(h G w vs h0 (hl.rep I (fun b o h=>I.lt b o h) (fun i b hi o=>(qaz I hi).1) hv)).mono ?_;rintro e w' ⟨v,x,g',H',rfl,⟨Y,rfl⟩,hx,hle,hr⟩;exact⟨v,x,rfl,Y,⟨hle.os,hle.output,hle.size,fun b hb _=>hle.kept b hb fun i=>C i b⟩,qge hx (hf x Y)⟩
section
variable {C:Cx} {T:VT} {H:List HO} {p:V}
theorem qid {dst:Option Tmp}{ty:TypeId}{pos:String}{J:Array Edge}{gd:Option (Nat×Bool)}{f:FuncId}{I:List V}{args:Array Operand}{j:Array TypeId}{r:Value}(R:args.toList.mapM (ev T)=some I)(Y:∀zs w,(callFunc f zs).run C.P w=.ok (.enter f zs) w)(h:∀g w vs,Le C.g C.w g w→HR g w H→da g w I vs→Calls C.P f vs.toArray w fun e w'=>e=.returned r∧aa All w w'):OpD C ⟨dst,.call {callee:=.value (.func f),args:=args,argTypes:=j},ty,pos,J,gd⟩ T H (.s r):=fun g a w o=>by
 right;have h3:=qbk o _ _ R;refine⟨f,(args.toList.map a.eval).toArray,?_,(h g w _ o.le o.hr h3).mono ?_⟩
 ·simp only[execOp,resolve,Act.eval,Deferred.ofValue,Sem.run_bind,Sem.run_pure,Result.andThen_ok,invoke,Y]
  cases args;simp
 rintro e w' ⟨rfl,hk⟩;exact⟨r,rfl,hk,.s _⟩
theorem qhn {dst:Option Tmp}{ty:TypeId}{pos:String}{R:Array Edge}{gd:Option (Nat×Bool)}{c:Operand}{q:V}{f:FuncId}{cs J zs:List V}{args:Array Operand}{j:Array TypeId}(Y:ev T c=some q)(hp:qdz q=some (f,cs))(ha:args.toList.mapM (ev T)=some J)(hf:∀zs w,(callFunc f zs).run C.P w=.ok (.enter f zs) w)(hg:VF C.P f zs (·=p))(hl:yc H (J++cs) zs)(o:qfb p=true):OpD C ⟨dst,.call {callee:=.value c,args:=args,argTypes:=j},ty,pos,R,gd⟩ T H p:=fun g a w I=>by
 right;obtain⟨us,h1,h2⟩:=qfc (I.ev Y) hp;have h3:=qbk I _ _ ha;refine⟨f,((args.toList.map a.eval)++us).toArray,?_,(hg.lend hl (fun x e=>e▸o) I.hr (h3.append h1)).mono ?_⟩
 ·simp only[execOp,resolve,h2,Deferred.ofValue,Sem.run_bind,Sem.run_pure,Result.andThen_ok,invoke,hf]
  simp
 rintro e w' ⟨v,x,rfl,rfl,hk,hv⟩;exact⟨v,rfl,hk,hv⟩
theorem yc.lt {cs:List V}(h:∀c∈cs,Lt 0 c):yc H cs cs:=⟨rfl,fun i c d j o=>by rw[j] at o;cases o;exact .lt c (h c (mG j))⟩
theorem Ro.ptr' {i off:Nat}{ty:TypeId}{cs j:List V}(h:yc H cs j)(hi:H[i]? =some (.cells ty cs)):Ro H (.ptr i off) (.rp j off):=.ptr i off ty cs j hi h.1 h.2
theorem Ro.fn' {f:Fn}{cs j:List V}(h:yc H cs j):Ro H (.fn f cs) (.fn f j):=.fn f cs j h.1 h.2
variable {m:Option KT} {Q:VQ} {ops:Array Oper} {l:List Oper} {t:Nat} {ty:TypeId} {pos:String} {af:Array Edge} {c:Operand} {q:V} {f:FuncId} {cs ys zs:List V} {args:Array Operand} {tys:Array TypeId}
theorem qbM (I:VF C.P f zs (·=p))(k:VO (md true m t) C ops Q l ((t,p)::T) H)(J:ev (rt m ⟨some t,.call {callee:=.value c,args:=args,argTypes:=tys},ty,pos,af,none⟩ T) c=some q:=by rfl)(R:qdz q=some (f,cs):=by rfl)(Y:args.toList.mapM (ev (rt m ⟨some t,.call {callee:=.value c,args:=args,argTypes:=tys},ty,pos,af,none⟩ T))=some ys:=by rfl)(o:ys++cs=zs:=by rfl)(hf:∀zs w,(callFunc f zs).run C.P w=.ok (.enter f zs) w:=by intro zs w;go_simp)(hl:∀x∈zs,Lt 0 x:=by simp[LT])(ht:Nat.blt t C.n=true:=by rfl)(j:ckF m ⟨some t,.call {callee:=.value c,args:=args,argTypes:=tys},ty,pos,af,none⟩=true:=by rfl):VO m C ops Q (⟨some t,.call {callee:=.value c,args:=args,argTypes:=tys},ty,pos,af,none⟩::l) T H:=o_D (qhi J R Y hf (o▸I) (o▸hl)) k rfl rfl (bl ht) j
theorem qaG (I:∀g w,Le C.g C.w g w→VFw w C.P f zs (·=p))(k:VO (md true m t) C ops Q l ((t,p)::T) H)(J:ev (rt m ⟨some t,.call {callee:=.value c,args:=args,argTypes:=tys},ty,pos,af,none⟩ T) c=some q:=by rfl)(R:qdz q=some (f,cs):=by rfl)(Y:args.toList.mapM (ev (rt m ⟨some t,.call {callee:=.value c,args:=args,argTypes:=tys},ty,pos,af,none⟩ T))=some ys:=by rfl)(o:ys++cs=zs:=by rfl)(hf:∀zs w,(callFunc f zs).run C.P w=.ok (.enter f zs) w:=by intro zs w;go_simp)(hl:∀x∈zs,Lt 0 x:=by simp[LT])(ht:Nat.blt t C.n=true:=by rfl)(j:ckF m ⟨some t,.call {callee:=.value c,args:=args,argTypes:=tys},ty,pos,af,none⟩=true:=by rfl):VO m C ops Q (⟨some t,.call {callee:=.value c,args:=args,argTypes:=tys},ty,pos,af,none⟩::l) T H:=o_D (qec J R Y hf (o▸I) (o▸hl)) k rfl rfl (bl ht) j
theorem qiT {r:Value}(h:∀g w vs,Le C.g C.w g w→HR g w H→da g w ys vs→Calls C.P f vs.toArray w fun e w'=>e=.returned r∧aa All w w')(k:VO (md true m t) C ops Q l ((t,.s r)::T) H)(o:args.toList.mapM (ev (rt m ⟨some t,.call {callee:=.value (.func f),args:=args,argTypes:=tys},ty,pos,af,none⟩ T))=some ys:=by rfl)(I:∀zs w,(callFunc f zs).run C.P w=.ok (.enter f zs) w:=by intro zs w;go_simp)(J:Nat.blt t C.n=true:=by rfl)(j:ckF m ⟨some t,.call {callee:=.value (.func f),args:=args,argTypes:=tys},ty,pos,af,none⟩=true:=by rfl):VO m C ops Q (⟨some t,.call {callee:=.value (.func f),args:=args,argTypes:=tys},ty,pos,af,none⟩::l) T H:=o_D (qid o I h) k rfl rfl (bl J) j
theorem qeV (I:VF C.P f zs (·=p))(hl:yc H (ys++cs) zs)(k:VO (md true m t) C ops Q l ((t,p)::T) H)(J:ev (rt m ⟨some t,.call {callee:=.value c,args:=args,argTypes:=tys},ty,pos,af,none⟩ T) c=some q:=by rfl)(R:qdz q=some (f,cs):=by rfl)(Y:args.toList.mapM (ev (rt m ⟨some t,.call {callee:=.value c,args:=args,argTypes:=tys},ty,pos,af,none⟩ T))=some ys:=by rfl)(hf:∀zs w,(callFunc f zs).run C.P w=.ok (.enter f zs) w:=by intro zs w;go_simp)(j:qfb p=true:=by rfl)(ht:Nat.blt t C.n=true:=by rfl)(o:ckF m ⟨some t,.call {callee:=.value c,args:=args,argTypes:=tys},ty,pos,af,none⟩=true:=by rfl):VO m C ops Q (⟨some t,.call {callee:=.value c,args:=args,argTypes:=tys},ty,pos,af,none⟩::l) T H:=o_D (qhn J R Y hf I hl j) k rfl rfl (bl ht) o
end
end Q
end
namespace Q
abbrev vi (n:Int):V:=.s (.int .i64 n)
abbrev v8 (n:Int):V:=.s (.int .u8 n)
abbrev qfd (l:List Int):V:=.row 1 8 (l.map fun n=>[.s (.int .i64 n)]) none
def Oe (x:bz):List V:=[.s (.int .u8 x.kind),.s (.int .u8 x.op),.s (.int .i64 x.dst),.s (.int .i64 x.ref),.s (.int .i64 x.Ni),qfd x.args,qfd x.Nh,.s (.int .i64 x.num),.s (.int .i64 x.Nj)]
abbrev qcz (l:List bz):V:=.row 9 96 (l.map Oe) none
def qaH (b:aw):List V:=[.s (.int .i64 b.params),.s (.int .i64 b.vars),.row 1 24 (b.Ng.map fun l=>[qcz l]) none]
def qck (es:List (MK×V))(x:bz):List (MK×V):=if 0≤x.dst then qbt es (.i .i64 x.dst) (.agg (Oe x)) else es
def qaM (l:List bz):List (MK×V):=l.foldl qck []
theorem vd {α:Type}{L:List (List α)}{k:Nat}{l:List α}(h:L[k]? =some l):(L.take (k+1)).flatten=(L.take k).flatten++l:=by rw[cU,h];simp
theorem qfy {l:List bz}{k:Nat}{x:bz}(h:l[k]? =some x)(p:List bz):qaM (p++l.take (k+1))=qck (qaM (p++l.take k)) x:=by rw[cU,h];simp[qaM,List.foldl_append]
theorem qia (N:Nat)(x:bz):∀c∈Oe x,Lt N c:=by simp[LT,Oe]
theorem qfh {N:Nat}{k:MK}{x:V}(j:Lt N x):∀ {es:List (MK×V)},(∀e∈es,Lt N e.2)→∀e∈qbt es k x,Lt N e.2
 | [],_,e,he=>by simp[qbt] at he;subst he;exact j
 |a::es,h,e,he=>by(
 simp only[qbt] at he;split at he
 ·rcases fX.1 he with rfl|he
  ·exact j
  exact h e (List.mem_cons_of_mem _ he)
 rcases fX.1 he with rfl|he;·exact h _ (List.mem_cons_self ..)
 exact qfh j (fun e he=>h e (List.mem_cons_of_mem _ he)) e he)
theorem qbA (N:Nat)(l:List bz):∀e∈qaM l,Lt N e.2:=by
 have key:∀(l:List bz) (es:List (MK×V)),(∀e∈es,Lt N e.2)→∀e∈l.foldl qck es,Lt N e.2:=by(
 intro l;induction l with
 |nil=>exact fun es h=>h
 |cons x l j=>
  intro es h;refine j _ ?_;unfold qck;split;·exact qfh (.agg _ (qia N x)) h
  exact h)
 exact key l [] (by simp)
theorem qbg (N:Nat)(b:aw):∀c∈qaH b,Lt N c:=by simp[LT,qaH,Oe]
theorem qgl (b:aw)(C:b.Ng.length≤9223372036854775807)(hl:∀l∈b.Ng,l.length≤9223372036854775807):VF prog 16 [.agg (qaH b)] (·=.rmap (.int .i64) (qaM b.Ng.flatten)):=by
 refine qaT [2] func16 rfl Tryz.results16 ntmps16 rfl fun g w=>?_;refine st ?_;refine qbf (fun k=>k≤b.Ng.length) (fun k=>b.Ng.length-k) (fun k=>[(12,.s (.int .i64 k)),(11,.s (.int .i64 b.Ng.length)),(10,.row 1 24 (b.Ng.map fun l=>[qcz l]) none),(3,.mp 1)]) (fun k=>[.cells 42 (qaH b),.map (.int .i64) (qaM (b.Ng.take k).flatten)]) 0 (Nat.zero_le _) ⟨rfl,rfl,rfl,rfl,trivial⟩ (.inl rfl) ?_;intro k I;refine st ?_;refine qbu (fun h=>?_) fun h=>?_
 case refine_2=>refine qbe (st ?_);refine qar ⟨.inl rfl,_,_,rfl,yc.cons (.mp 1 _ _ rfl (qbA 0 _)) yc.nil,?_⟩;rw[oF (by omega)];rfl
 obtain⟨l,j⟩:=eG h;have o:=hl l (mG j);refine st ?_;refine qbf (fun i=>i≤l.length) (fun i=>l.length-i) (fun i=>[(18,.s (.int .i64 i)),(17,.s (.int .i64 l.length)),(16,qcz l),(12,.s (.int .i64 k)),(11,.s (.int .i64 b.Ng.length)),(10,.row 1 24 (b.Ng.map fun l=>[qcz l]) none),(3,.mp 1)]) (fun i=>[.cells 42 (qaH b),.map (.int .i64) (qaM ((b.Ng.take k).flatten++l.take i))]) 0 (Nat.zero_le _) ⟨rfl,rfl,rfl,rfl,rfl,rfl,rfl,trivial⟩ (.inl (by simp)) ?_;intro i hi;refine st ?_;refine qbu (fun h=>?_) fun h=>?_
 case refine_2=>refine qbe (st ?_);exact⟨k+1,by omega,by omega,⟨rfl,rfl,rfl,rfl,trivial⟩,.inl (by rw[vd j,oF (l:=l) (by omega)])⟩
 obtain⟨x,hy⟩:=eG h;have e:=qfy hy (b.Ng.take k).flatten;refine st ?_;refine qbu (fun h=>?_) fun h=>?_
 all_goals
  first|rw[qck,ap h] at e|rw[qck,ae h] at e
  refine st ?_;exact⟨i+1,by omega,by omega,⟨rfl,rfl,rfl,rfl,rfl,rfl,rfl,trivial⟩,.inr ⟨_,by rw[e];rfl,Nat.zero_le _,by simp[LT,Oe],xz (qbg _ b) (xz (qbA _ _) ik)⟩⟩
end Q
end Go.Proofs.YtgdlhckhpolnnaaGreatDoor
