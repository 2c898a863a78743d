/- Part 20 of the proof (its last part says what is proved). No condition. -/
import Derived.Test.YtgdlhckhpolnnaaGreatDoorK18
namespace Go.Proofs.YtgdlhckhpolnnaaGreatDoor
set_option maxRecDepth 100000
set_option maxHeartbeats 8000000
open Go.RowKit Go.Proofs.Tryz
section
namespace Q
inductive Ro (H:List HO):V→V→Prop
 |lt (x:V) (h:Lt 0 x):Ro H x x
 |row (k bw:Nat) (es:List (List V)) (tok:Option Nat) (h:∀e∈es,∀c∈e,Lt 0 c):Ro H (.row k bw es tok) (.row k bw es none)
 |agg (cs ds:List V) (hl:cs.length=ds.length) (h:∀(i:Nat) c d,cs[i]? =some c→ds[i]? =some d→Ro H c d):Ro H (.agg cs) (.agg ds)
 |tup (cs ds:List V) (hl:cs.length=ds.length) (h:∀(i:Nat) c d,cs[i]? =some c→ds[i]? =some d→Ro H c d):Ro H (.tup cs) (.tup ds)
 |fn (f:Fn) (cs ds:List V) (hl:cs.length=ds.length) (h:∀(i:Nat) c d,cs[i]? =some c→ds[i]? =some d→Ro H c d):Ro H (.fn f cs) (.fn f ds)
 |ptr (i off:Nat) (ty:TypeId) (cs ds:List V) (hi:H[i]? =some (.cells ty cs)) (hl:cs.length=ds.length) (h:∀(i:Nat) c d,cs[i]? =some c→ds[i]? =some d→Ro H c d):Ro H (.ptr i off) (.rp ds off)
 |mp (i:Nat) (d:TypeDesc) (es:List (MK×V)) (hi:H[i]? =some (.map d es)) (h:∀e∈es,Lt 0 e.2):Ro H (.mp i) (.rmap d es)
def Ros (H:List HO)(cs j:List V):Prop:=cs.length=j.length∧∀(i:Nat) c d,cs[i]? =some c→j[i]? =some d→Ro H c d
section
variable {g g':Gh} {w:World} {H:List HO}
theorem Ros.nil:Ros H [] []:=⟨rfl,fun i c d h=>by simp at h⟩
theorem Ros.cons {c d:V}{cs C:List V}(h:Ro H c d)(I:Ros H cs C):Ros H (c::cs) (d::C):=by
 refine⟨by simp[I.1],fun i x y j o=>?_⟩;cases i with
 |zero=>simp at j o;subst j o;exact h
 |succ i=>simp at j o;exact I.2 i x y j o
theorem Ro.rep {x y:V}(hr:HR g w H)(h1:∀b o,g.fz b o→g'.fz b o)(h2:∀i b,g.own i b→∀o,g'.fz b o)(h:Ro H x y):∀ {v:Value},VR g w x v→VR g' w y v:=by
 have cut:Le0 (g.cut 0) w g' w:=⟨fun b o h=>⟨h1 b o h,rfl⟩,fun i b h=>by simp[Gh.cut] at h,fun i u n h=>by simp[Gh.cut] at h,fun _ _=>rfl⟩;induction h with
 |lt x h=>exact fun I=>(I.cut h).le0 cut
 |row k bw es tok h=>
  intro v I;have a6:VR g w (.row k bw es none) v:=by
   cases I with
   |row _ _ _ _ a c f h1 h2 h3 hk ha hr ht=>exact .row k bw es none a c f h1 h2 h3 hk ha hr fun _ e=>by cases e
  exact(a6.cut (.row k bw es none h fun _ e=>by cases e)).le0 cut
 |agg cs Y hl _ ih=>
  intro v I;cases I with
  |agg _ vs J h=>refine .agg Y vs (hl.symm.trans J) fun i d u R hu=>?_;have C:=(lS.1 R).1;exact ih i _ d (lG (hl▸C)) R (h i _ u (lG (hl▸C)) hu)
 |tup cs Y hl _ ih=>
  intro v I;cases I with
  |tup _ vs J h=>refine .tup Y vs (hl.symm.trans J) fun i d u R hu=>?_;have C:=(lS.1 R).1;exact ih i _ d (lG (hl▸C)) R (h i _ u (lG (hl▸C)) hu)
 |fn f cs Y hl _ ih=>
  intro v I;cases I with
  |fn _ _ vs J h=>refine .fn f Y vs (hl.symm.trans J) fun i d u R hu=>?_;have C:=(lS.1 R).1;exact ih i _ d (lG (hl▸C)) R (h i _ u (lG (hl▸C)) hu)
 |ptr i off ty cs Y hi hl _ ih=>
  intro v I;cases I with
  |ptr _ _ b hb=>
   obtain⟨b',us,⟨k1,_⟩,k2,k3,_⟩:=hr.objs i _ hi;rw[hb] at k1;cases k1;have hlen:us.length=Y.length:=by rw[←k3.1,hl]
   have:=VR.rp (g:=g') (w:=w) Y off b 0 (fun j=>us.getD j undef) (fun j hj=>⟨h2 i b (.inl hb) _,by
    rw[cN,k2.cell];simp[lG (hlen▸hj)]⟩) (fun j d R=>by
    have C:=(lS.1 R).1;have hc:=lG (hl▸C);obtain⟨u,e1,e2⟩:=k3.get hc;simpa [iG,e1] using ih j _ d hc R e2)
   rwa [cN] at this
 |mp i d es hi h=>
  intro v I;cases I with
  |mp _ b hb=>obtain⟨b',a1,clock,⟨k1,_⟩,k2,⟨⟨m1,m2,_,_⟩,m5⟩,_⟩:=hr.objs i _ hi;rw[hb] at k1;cases k1;exact .rmap d es b a1 clock (h2 i b (.inl hb)) k2 m1 (fun j x e hx he=>(m2 j x e hx he).1) m5 fun j x e hx he=>((m2 j x e hx he).2.cut (h x (mG hx))).le0 cut
theorem Ros.rep {xs I:List V}{J:List Value}(hr:HR g w H)(h1:∀b o,g.fz b o→g'.fz b o)(h2:∀i b,g.own i b→∀o,g'.fz b o)(h:Ros H xs I)(R:VRs g w xs J):VRs g' w I J:=
 ⟨h.1.symm.trans R.1,fun i y v Y j=>by have C:=(lS.1 Y).1;have hx:=lG (h.1▸C);exact(h.2 i _ y hx Y).rep hr h1 h2 (R.2 i _ v hx j)⟩
end
def qcE (o:List Tmp)(Q:V→Prop):VQ:=fun e T H=>(e=.ret∨e=.normal)∧∃xs j,o.mapM (Oo T)=some xs∧Ros H xs j∧Q (qeF j)
theorem qcU {P:Program}{f:FuncId}{fn:Func}{c:Code}{xs:List V}{Q:V→Prop}(ts:List Tmp)(hf:P.funcs[f]? =some fn)(I:fn.body=some c)(hr:fn.results=(ts.map .tmp).toArray){n:Nat}(hm:fn.ntmps=n)(hk:Nat.ble xs.length n=true)
 {g:Gh} {w:World} {vs:List Value} (hh:HR g w []) (hx:VRs g w xs vs) (h:VW ⟨P,g,w,[],n,0⟩ c (qcE ts Q) (T0 0 xs) []):Calls P f vs.toArray w fun e w'=>∃v x g' H',e=.returned v∧(Q x∧H'=[])∧VR g' w' x v∧Le g w g' w'∧HR g' w' H':=by
 subst hm;have hn:=Nat.le_of_ble_eq_true hk;refine calls_of_wp hf I (wp_mono (h.out g _ w ⟨Le.refl _ _,fun t x ht=>?_,hh,rfl,?_,hh.nil⟩) ?_);·obtain⟨_,h2⟩:=qeO xs 0 t x ht;obtain⟨v,h3,h4⟩:=hx.get h2;refine⟨v,?_,h4⟩;have a1:=(lS.1 h3).1;rw[Array.getElem?_append_left (by simpa using a1)];simpa using h3
 ·simp[←hx.1];omega
 rintro e a w' ⟨g',T,H1,C,he,J,ys,h1,h2,h3⟩;obtain⟨us,a6,hv⟩:∃us,ts.map (fun t=>a.tmps.getD t undef)=us∧VRs g' w' J us:=⟨_,rfl,qcT C ts J h1⟩;have R:∀i b,¬g.own i b:=fun i b hi=>by
  have:=hh.nil i (Nat.zero_le _);rcases hi with hi|⟨v,n,hi,_⟩;·rw[this.1] at hi;cases hi
  rw[this.2] at hi;cases hi
 let G:Gh:=⟨fun _=>none,fun b o=>g'.fz b o∨w.heap.size≤b∧b<w'.heap.size,fun _=>none⟩
 have a7:VRs G w' ys us:=h2.rep C.hr (fun b o h=>.inl h) (fun i b hi o=>.inr ⟨(C.le.own i b hi).resolve_left (R i b),(qaG C.hr hi).1⟩) hv;have hle:Le g w G w':=⟨C.le.os,C.le.output,C.le.size,fun b o h=>⟨.inl (C.le.fz b o h).1,(C.le.fz b o h).2⟩,fun i b hi=>absurd (.inl hi) (R i b),fun i u n hi=>absurd (hi.symm.trans (hh.nil i (Nat.zero_le _)).2) (by simp),C.le.fzb,C.le.kept,fun i b hi=>(by rcases hi with hi|⟨v,n,hi,_⟩<;>simp[G] at hi),fun b o I=>I.elim (fun I=>C.le.fzn b o I) fun I=>.inr (.inl I.1)⟩;have hH:HR G w' []:=⟨fun i o h=>by simp at h,fun i _=>⟨rfl,rfl⟩,fun i j b hi=>(by rcases hi with hi|⟨v,n,hi,_⟩<;>simp[G] at hi),fun b o I=>I.elim (fun I=>C.hr.lt b o I) fun I=>I.2⟩;obtain⟨v,e1,e2⟩:=qhi (P:=P) hr a6 a7;have Y:a.defers=[]∧∃v,(results fn a.tmps).run P w'=.ok v w'∧∃v' x g' H',Ending.returned v=.returned v'∧(Q x∧H'=[])∧VR g' w' x v'∧Le g w g' w'∧HR g' w' H':=⟨C.defers,v,e1,v,_,G,[],rfl,⟨h3,rfl⟩,e2,hle,hH⟩;rcases he with rfl|rfl<;>exact Y
theorem qaR {P:Program}{f:FuncId}{fn:Func}{c:Code}{xs:List V}{Q:V→Prop}(j:List Tmp)(o:P.funcs[f]? =some fn)(C:fn.body=some c)(hr:fn.results=(j.map .tmp).toArray){n:Nat}(hm:fn.ntmps=n)(I:Nat.ble xs.length n=true)
 (h:∀g w,VW ⟨P,g,w,[],n,0⟩ c (qcE j Q) (T0 0 xs) []):VF P f xs Q:=fun g w _ J R=>qcU j o C hr hm I J R (h g w)
def VFL (L:World→Prop)(P:Program)(f:FuncId)(xs:List V)(Q:V→Prop):Prop:=∀w,L w→VFw w P f xs Q
theorem HR.none {g:Gh}{w:World}(h:HR g w [])(i b:Nat):¬g.own i b:=fun hi=>by
 have:=h.nil i (Nat.zero_le _);rcases hi with hi|⟨v,n,hi,_⟩;·rw[this.1] at hi;cases hi
 rw[this.2] at hi;cases hi
theorem Le.all {g g':Gh}{w w':World}(h:Le g w g' w')(j:∀i b,¬g.own i b):aa All w w':=⟨h.os,h.output,h.size,fun b o _=>h.kept b o fun i=>j i b⟩
theorem qbX {L:World→Prop}{P:Program}{f:FuncId}{fn:Func}{c:Code}{xs:List V}{Q:V→Prop}(j:List Tmp)(C:P.funcs[f]? =some fn)(I:fn.body=some c)(hr:fn.results=(j.map .tmp).toArray){n:Nat}(hm:fn.ntmps=n)(J:Nat.ble xs.length n=true)
 (h:∀g w,L w→(∀g' w',Le g w g' w'→aa All w w')→VW ⟨P,g,w,[],n,0⟩ c (qcE j Q) (T0 0 xs) []):VFL L P f xs Q:=fun w R g _ o Y=>qcU j C I hr hm J o Y (h g w R fun _ _ hl=>hl.all o.none)
def qeL:V→Bool
 |.s _=>true
 |.tup cs=>cs.all fun|.s _=>true|_=>false
 |.agg cs=>cs.all fun|.s _=>true|_=>false
 |_=>false
theorem qfR {g g':Gh}{w w':World}{x:V}{v:Value}(h:VR g w x v)(o:qeL x=true):VR g' w' x v:=by
 have key:∀(cs:List V) (j:List Value),(cs.all fun|.s _=>true|_=>false)=true→(∀(i:Nat) c v,cs[i]? =some c→j[i]? =some v→VR g w c v)→∀(i:Nat) c v,cs[i]? =some c→j[i]? =some v→VR g' w' c v:=by intro cs j I h i c v C J;have:=List.all_eq_true.1 I c (mG C);have R:=h i c v C J;cases c<;>simp at this;cases R;exact .s _
 cases h with
 |s v=>exact .s v
 |tup cs j hl h=>exact .tup cs j hl (key cs j o h)
 |agg cs j hl h=>exact .agg cs j hl (key cs j o h)
 |_=>cases o
theorem VF.lend {P:Program}{f:FuncId}{xs Y:List V}{R:V→Prop}{H:List HO}(h:VF P f Y R)(hl:Ros H xs Y)(hf:∀x,R x→qeL x=true){g:Gh}{w:World}{I:List Value}(J:HR g w H)(hv:VRs g w xs I):Calls P f I.toArray w fun e w'=>∃v x,e=.returned v∧R x∧aa All w w'∧VR (g.frz w.heap.size w') w' x v:=by
 let G:Gh:=⟨fun _=>none,fun b _=>b<w.heap.size,fun _=>none⟩
 have C:∀i b,¬G.own i b:=fun i b hi=>by rcases hi with hi|⟨v,n,hi,_⟩<;>simp[G] at hi
 have h0:HR G w []:=⟨fun i o h=>by simp at h,fun i _=>⟨rfl,rfl⟩,fun i j b hi=>absurd hi (C i b),fun b o h=>h⟩;refine(h G w I h0 (hl.rep J (fun b o h=>J.lt b o h) (fun i b hi o=>(qaG J hi).1) hv)).mono ?_;rintro e w' ⟨v,x,g',H',rfl,⟨hq,rfl⟩,hx,hle,hr⟩;exact⟨v,x,rfl,hq,⟨hle.os,hle.output,hle.size,fun b hb _=>hle.kept b hb fun i=>C i b⟩,qfR hx (hf x hq)⟩
section
variable {C:Cx} {T:VT} {H:List HO} {p:V}
theorem qhM {dst:Option Tmp}{ty:TypeId}{pos:String}{R:Array Edge}{gd:Option (Nat×Bool)}{f:FuncId}{I:List V}{args:Array Operand}{j:Array TypeId}{r:Value}(Y:args.toList.mapM (ev T)=some I)(hf:∀zs w,(callFunc f zs).run C.P w=.ok (.enter f zs) w)(h:∀g w J,Le C.g C.w g w→HR g w H→VRs g w I J→Calls C.P f J.toArray w fun e w'=>e=.returned r∧aa All w w'):OpD C ⟨dst,.call {callee:=.value (.func f),args:=args,argTypes:=j},ty,pos,R,gd⟩ T H (.s r):=fun g a w o=>by
 right;have h3:=qbD o _ _ Y;refine⟨f,(args.toList.map a.eval).toArray,?_,(h g w _ o.le o.hr h3).mono ?_⟩
 ·simp only[execOp,resolve,Act.eval,Deferred.ofValue,Sem.run_bind,Sem.run_pure,Result.andThen_ok,invoke,hf]
  cases args;simp
 rintro e w' ⟨rfl,hk⟩;exact⟨r,rfl,hk,.s _⟩
theorem qhb {dst:Option Tmp}{ty:TypeId}{pos:String}{R:Array Edge}{gd:Option (Nat×Bool)}{c:Operand}{q:V}{f:FuncId}{cs J zs:List V}{args:Array Operand}{j:Array TypeId}(Y:ev T c=some q)(hp:qdr q=some (f,cs))(ha:args.toList.mapM (ev T)=some J)(hf:∀zs w,(callFunc f zs).run C.P w=.ok (.enter f zs) w)(hg:VF C.P f zs (·=p))(hl:Ros H (J++cs) zs)(o:qeL p=true):OpD C ⟨dst,.call {callee:=.value c,args:=args,argTypes:=j},ty,pos,R,gd⟩ T H p:=fun g a w I=>by
 right;obtain⟨us,h1,h2⟩:=qeM (I.ev Y) hp;have h3:=qbD I _ _ ha;refine⟨f,((args.toList.map a.eval)++us).toArray,?_,(hg.lend hl (fun x e=>e▸o) I.hr (h3.append h1)).mono ?_⟩
 ·simp only[execOp,resolve,h2,Deferred.ofValue,Sem.run_bind,Sem.run_pure,Result.andThen_ok,invoke,hf]
  simp
 rintro e w' ⟨v,x,rfl,rfl,hk,hv⟩;exact⟨v,rfl,hk,hv⟩
theorem Ros.lt {cs:List V}(h:∀c∈cs,Lt 0 c):Ros H cs cs:=⟨rfl,fun i c d j o=>by rw[j] at o;cases o;exact .lt c (h c (mG j))⟩
theorem Ro.ptr' {i off:Nat}{ty:TypeId}{cs j:List V}(h:Ros H cs j)(hi:H[i]? =some (.cells ty cs)):Ro H (.ptr i off) (.rp j off):=.ptr i off ty cs j hi h.1 h.2
theorem Ro.fn' {f:Fn}{cs j:List V}(h:Ros H cs j):Ro H (.fn f cs) (.fn f j):=.fn f cs j h.1 h.2
variable {m:Option KT} {Q:VQ} {ops:Array Oper} {l:List Oper} {t:Nat} {ty:TypeId} {pos:String} {af:Array Edge} {c:Operand} {q:V} {f:FuncId} {cs ys zs:List V} {args:Array Operand} {tys:Array TypeId}
theorem qbN (I:VF C.P f zs (·=p))(k:VO (md true m t) C ops Q l ((t,p)::T) H)(J:ev (rt m ⟨some t,.call {callee:=.value c,args:=args,argTypes:=tys},ty,pos,af,none⟩ T) c=some q:=by rfl)(R:qdr q=some (f,cs):=by rfl)(Y:args.toList.mapM (ev (rt m ⟨some t,.call {callee:=.value c,args:=args,argTypes:=tys},ty,pos,af,none⟩ T))=some ys:=by rfl)(o:ys++cs=zs:=by rfl)(hf:∀zs w,(callFunc f zs).run C.P w=.ok (.enter f zs) w:=by intro zs w;go_simp)(hl:∀x∈zs,Lt 0 x:=by simp[LT])(ht:Nat.blt t C.n=true:=by rfl)(j:ckF m ⟨some t,.call {callee:=.value c,args:=args,argTypes:=tys},ty,pos,af,none⟩=true:=by rfl):VO m C ops Q (⟨some t,.call {callee:=.value c,args:=args,argTypes:=tys},ty,pos,af,none⟩::l) T H:=o_D (qgW J R Y hf (o▸I) (o▸hl)) k rfl rfl (bl ht) j
theorem qaP (I:∀g w,Le C.g C.w g w→VFw w C.P f zs (·=p))(k:VO (md true m t) C ops Q l ((t,p)::T) H)(J:ev (rt m ⟨some t,.call {callee:=.value c,args:=args,argTypes:=tys},ty,pos,af,none⟩ T) c=some q:=by rfl)(R:qdr q=some (f,cs):=by rfl)(Y:args.toList.mapM (ev (rt m ⟨some t,.call {callee:=.value c,args:=args,argTypes:=tys},ty,pos,af,none⟩ T))=some ys:=by rfl)(o:ys++cs=zs:=by rfl)(hf:∀zs w,(callFunc f zs).run C.P w=.ok (.enter f zs) w:=by intro zs w;go_simp)(hl:∀x∈zs,Lt 0 x:=by simp[LT])(ht:Nat.blt t C.n=true:=by rfl)(j:ckF m ⟨some t,.call {callee:=.value c,args:=args,argTypes:=tys},ty,pos,af,none⟩=true:=by rfl):VO m C ops Q (⟨some t,.call {callee:=.value c,args:=args,argTypes:=tys},ty,pos,af,none⟩::l) T H:=o_D (qdO J R Y hf (o▸I) (o▸hl)) k rfl rfl (bl ht) j
theorem qiC {r:Value}(h:∀g w o,Le C.g C.w g w→HR g w H→VRs g w ys o→Calls C.P f o.toArray w fun e w'=>e=.returned r∧aa All w w')(k:VO (md true m t) C ops Q l ((t,.s r)::T) H)(I:args.toList.mapM (ev (rt m ⟨some t,.call {callee:=.value (.func f),args:=args,argTypes:=tys},ty,pos,af,none⟩ T))=some ys:=by rfl)(J:∀zs w,(callFunc f zs).run C.P w=.ok (.enter f zs) w:=by intro zs w;go_simp)(R:Nat.blt t C.n=true:=by rfl)(j:ckF m ⟨some t,.call {callee:=.value (.func f),args:=args,argTypes:=tys},ty,pos,af,none⟩=true:=by rfl):VO m C ops Q (⟨some t,.call {callee:=.value (.func f),args:=args,argTypes:=tys},ty,pos,af,none⟩::l) T H:=o_D (qhM I J h) k rfl rfl (bl R) j
theorem qeG (I:VF C.P f zs (·=p))(hl:Ros H (ys++cs) zs)(k:VO (md true m t) C ops Q l ((t,p)::T) H)(J:ev (rt m ⟨some t,.call {callee:=.value c,args:=args,argTypes:=tys},ty,pos,af,none⟩ T) c=some q:=by rfl)(R:qdr q=some (f,cs):=by rfl)(Y:args.toList.mapM (ev (rt m ⟨some t,.call {callee:=.value c,args:=args,argTypes:=tys},ty,pos,af,none⟩ T))=some ys:=by rfl)(hf:∀zs w,(callFunc f zs).run C.P w=.ok (.enter f zs) w:=by intro zs w;go_simp)(j:qeL p=true:=by rfl)(ht:Nat.blt t C.n=true:=by rfl)(o:ckF m ⟨some t,.call {callee:=.value c,args:=args,argTypes:=tys},ty,pos,af,none⟩=true:=by rfl):VO m C ops Q (⟨some t,.call {callee:=.value c,args:=args,argTypes:=tys},ty,pos,af,none⟩::l) T H:=o_D (qhb J R Y hf I hl j) k rfl rfl (bl ht) o
end
end Q
end
namespace Q
abbrev vi (n:Int):V:=.s (.int .i64 n)
abbrev qeN (l:List Int):V:=.row 1 8 (l.map fun n=>[.s (.int .i64 n)]) none
def Oe (x:bz):List V:=[.s (.int .u8 x.kind),.s (.int .u8 x.op),.s (.int .i64 x.dst),.s (.int .i64 x.ref),.s (.int .i64 x.Ni),qeN x.args,qeN x.Nh,.s (.int .i64 x.num),.s (.int .i64 x.Nj)]
abbrev qcv (l:List bz):V:=.row 9 96 (l.map Oe) none
def qaW (b:aw):List V:=[.s (.int .i64 b.params),.s (.int .i64 b.vars),.row 1 24 (b.Ng.map fun l=>[qcv l]) none]
def qcj (es:List (MK×V))(x:bz):List (MK×V):=if 0≤x.dst then qbs es (.i .i64 x.dst) (.agg (Oe x)) else es
def qaN (l:List bz):List (MK×V):=l.foldl qcj []
theorem vd {α:Type}{L:List (List α)}{k:Nat}{l:List α}(h:L[k]? =some l):(L.take (k+1)).flatten=(L.take k).flatten++l:=by rw[cU,h];simp
theorem qfh {l:List bz}{k:Nat}{x:bz}(h:l[k]? =some x)(p:List bz):qaN (p++l.take (k+1))=qcj (qaN (p++l.take k)) x:=by rw[cU,h];simp[qaN,List.foldl_append]
theorem qhJ (N:Nat)(x:bz):∀c∈Oe x,Lt N c:=by simp[LT,Oe]
theorem qeR {N:Nat}{k:MK}{x:V}(j:Lt N x):∀ {es:List (MK×V)},(∀e∈es,Lt N e.2)→∀e∈qbs es k x,Lt N e.2
 | [],_,e,he=>by simp[qbs] at he;subst he;exact j
 |a::es,h,e,he=>by(
 simp only[qbs] at he;split at he
 ·rcases fX.1 he with rfl|he
  ·exact j
  exact h e (List.mem_cons_of_mem _ he)
 rcases fX.1 he with rfl|he;·exact h _ (List.mem_cons_self ..)
 exact qeR j (fun e he=>h e (List.mem_cons_of_mem _ he)) e he)
theorem qbx (N:Nat)(l:List bz):∀e∈qaN l,Lt N e.2:=by
 have key:∀(l:List bz) (es:List (MK×V)),(∀e∈es,Lt N e.2)→∀e∈l.foldl qcj es,Lt N e.2:=by(
 intro l;induction l with
 |nil=>exact fun es h=>h
 |cons x l j=>
  intro es h;refine j _ ?_;unfold qcj;split;·exact qeR (.agg _ (qhJ N x)) h
  exact h)
 exact key l [] (by simp)
theorem qbb (N:Nat)(b:aw):∀c∈qaW b,Lt N c:=by simp[LT,qaW,Oe]
theorem qfY (b:aw)(I:b.Ng.length≤9223372036854775807)(hl:∀l∈b.Ng,l.length≤9223372036854775807):VF prog 16 [.agg (qaW b)] (·=.rmap (.int .i64) (qaN b.Ng.flatten)):=by
 refine qaR [2] func16 rfl Tryz.results16 ntmps16 rfl fun g w=>?_;refine st ?_;refine qbM (fun k=>k≤b.Ng.length) (fun k=>b.Ng.length-k) (fun k=>[(12,.s (.int .i64 k)),(11,.s (.int .i64 b.Ng.length)),(10,.row 1 24 (b.Ng.map fun l=>[qcv l]) none),(3,.mp 1)]) (fun k=>[.cells 42 (qaW b),.map (.int .i64) (qaN (b.Ng.take k).flatten)]) 0 (Nat.zero_le _) ⟨rfl,rfl,rfl,rfl,trivial⟩ (.inl rfl) ?_;intro k J;refine st ?_;refine qbT (fun h=>?_) fun h=>?_
 case refine_2=>refine qbL (st ?_);refine qaw ⟨.inl rfl,_,_,rfl,Ros.cons (.mp 1 _ _ rfl (qbx 0 _)) Ros.nil,?_⟩;rw[oF (by omega)];rfl
 obtain⟨l,j⟩:=eG h;have o:=hl l (mG j);refine st ?_;refine qbM (fun i=>i≤l.length) (fun i=>l.length-i) (fun i=>[(18,.s (.int .i64 i)),(17,.s (.int .i64 l.length)),(16,qcv l),(12,.s (.int .i64 k)),(11,.s (.int .i64 b.Ng.length)),(10,.row 1 24 (b.Ng.map fun l=>[qcv l]) none),(3,.mp 1)]) (fun i=>[.cells 42 (qaW b),.map (.int .i64) (qaN ((b.Ng.take k).flatten++l.take i))]) 0 (Nat.zero_le _) ⟨rfl,rfl,rfl,rfl,rfl,rfl,rfl,trivial⟩ (.inl (by simp)) ?_;intro i hi;refine st ?_;refine qbT (fun h=>?_) fun h=>?_
 case refine_2=>refine qbL (st ?_);exact⟨k+1,by omega,by omega,⟨rfl,rfl,rfl,rfl,trivial⟩,.inl (by rw[vd j,oF (l:=l) (by omega)])⟩
 obtain⟨x,C⟩:=eG h;have e:=qfh C (b.Ng.take k).flatten;refine st ?_;refine qbT (fun h=>?_) fun h=>?_
 all_goals
  first|rw[qcj,ap h] at e|rw[qcj,ae h] at e
  refine st ?_;exact⟨i+1,by omega,by omega,⟨rfl,rfl,rfl,rfl,rfl,rfl,rfl,trivial⟩,.inr ⟨_,by rw[e];rfl,Nat.zero_le _,by simp[LT,Oe],al1 (qbb _ b) (al1 (qbx _ _) al0)⟩⟩
end Q
def XS (W:World)(C:Prop)(j:List PanicEntry)(wn:World):Prop:=¬C∧(∃a n:Int,n≠0∧aV a∧aV n∧j=[{v:=.iface 116 (.agg #[.int .i64 a,.int .i64 n]),recovered:=false}])∧aa All W wn
theorem XS.end_ {W w wn:World}{C:Prop}{j:List PanicEntry}{R:Ending→World→Prop}(h:XS W C j wn)(o:aa All w W):ql C R w (.panicked j) wn:=by obtain⟨I,⟨a,n,J,Y,h4,rfl⟩,h5⟩:=h;exact .inr ⟨I,⟨a,n,J,Y,h4,rfl⟩,o.trans h5⟩
theorem XS.stop {W w wn:World}{C:Prop}{j:List PanicEntry}(h:XS W C j wn)(o:aa All w W):KG (.panicked j)∧aa All w wn:=by obtain⟨h1,⟨a,n,I,J,R,rfl⟩,Y⟩:=h;exact⟨⟨a,n,I,J,R,rfl⟩,o.trans Y⟩
theorem RN {id:Nat}{Q':Exit→Act→World→Prop}{a:Act}{w:World}{l I:List Oper}{b:Bool}{C:Prop}(n nd:Nat)(W:World)(L:Nat→Option (Value→Prop))(_:Hid (b=true↔C))(R:∀j J w,XS W C J w→j.defers=a.defers→Q' (.panic J) j w)(h:oC prog l.toArray (aa All W) [] (fun _ _ _=>True) L (fun i=>i==nd&&!b) (XS W C) (fun j=>∀w',aa All W w'→(∀t∈([]:List Tmp),∀v,j.tmps[t]? =some v→True)→wpList prog l.toArray Q' (l.drop n) j w') I 0 false a)(hm:prog.follows .mixedOrders=true:=by kernel_rfl)(Y:yZ .any l.toArray n=true:=by kernel_rfl)(hT:ns .any l.toArray []=true:=by kernel_rfl)(o:pM l.toArray [] n=true:=by kernel_rfl)(hS:aa All W w.drew:=by exact kR.drew)(ht:l.take n=I:=by conv=>lhs;simp only[tK]):(Code.region id l.toArray true).wp prog Q' a w:=
 R2 n W L (fun i=>i==nd&&!b) (XS W C) R h hm Y hT o hS ht
theorem ql.reg {W w:World}{c C:Prop}[Decidable c]{R:Ending→World→Prop}{G:World→Prop}{f:FuncId}{args:Array Value}{v:Value}(h:Calls prog f args w (ql c R w))(hc:C→c)(J:aa All W w)(o:∀e w',R e w'→e=.returned v∧aa All w w')(hG:∀w',aa All w w'→G w'):
 Calls prog f args w fun e w'=>(decide c=true∧e=.returned v∧aa All W w'∧G w')∨∃Y,e=.panicked Y∧XS W C Y w':=
 h.mono fun e w' h=>by
  rcases h with ⟨I,j⟩|⟨I,⟨a,n,j,h3,h4,rfl⟩,h5⟩;·exact .inl ⟨bL I,(o _ _ j).1,J.trans (o _ _ j).2,hG _ (o _ _ j).2⟩
  exact .inr ⟨_,rfl,fun h=>I (hc h),⟨a,n,j,h3,h4,rfl⟩,J.trans h5⟩
theorem ZT {W wn:World}{b:Nat}{l:List ByteArray}{s:ByteArray}{a r:Int}{C:Prop}(hm:cK W b l)(I:s.size≤140737488355328)(J:aV a)(hr:r=aO l s)(R:C→0≤r)(j:aa All W wn):
 Calls prog 157 #[.map (some b),.string s,.int .i64 a] wn fun e w'=>(decide (0≤r)=true∧e=.returned (.int .i64 r)∧aa All W w'∧∀t∈([]:List Tmp),∀_:Value,True→True)∨∃o,e=.panicked o∧XS W C o w':=by
 subst hr;exact ql.reg (lQ b l s a wn (hm.keep j trivial) I J) R j (fun e w' h=>⟨h.1,h.2▸kR⟩) fun _ _ _ _ _ _=>trivial
theorem ZR {W wn:World}{b:Bool}{a n:Int}{C:Prop}(I:aV a)(J:n≠0)(hi:aV n)(R:C→b=true)(j:aa All W wn):
 Calls prog 48 #[.bool b,.int .i64 a,.int .i64 n] wn fun e w'=>(b=true∧e=.returned (.tuple #[])∧aa All W w'∧∀t∈([]:List Tmp),∀_:Value,True→True)∨∃o,e=.panicked o∧XS W C o w':=by
 cases b with
 |true=>exact(dX a n wn).mono fun e w' h=>.inl ⟨rfl,h.1,h.2▸j,fun _ _ _ _=>trivial⟩
 |false=>exact(fP a n wn).mono fun e w' h=>.inr ⟨_,h.1,fun h=>Bool.noConfusion (R h),⟨a,n,J,I,hi,rfl⟩,h.2▸j⟩
theorem qab (r a:Int)(w:World)(j:aV a):Calls prog 50 #[.int .i64 (max r 0),.bool (decide (0≤r)),.int .i64 a] w (ql (0≤r) (fun e w'=>e=.returned (.int .i64 r)∧w=w') w):=by
 by_cases h:0≤r
 ·rw[Int.max_eq_left h,bL h]
  exact(nQ _ _ _).mono fun e w' h'=>.inl ⟨h,h'⟩
 rw[cI h];exact(pK _ _ _ j).mono fun e w' h'=>.inr ⟨h,h'.1,h'.2▸kR⟩
def rV (S:Nat→Prop)(w:World)(br:Nat)(p:aH)(q:dN):Prop:=∃j C vi I J R Y o,al w br 121 #[j,C,vi,I,.int .i64 p.Nc,J,R,.map (some Y),.map (some o)]∧dJ S w (.agg #[j,C,vi,I,.int .i64 p.Nc]) p∧BF S w (.agg #[J,R]) q∧
 cK w Y (dz q)∧cK w o (fh q)
theorem rV.keep {S:Nat→Prop}{w w':World}{C:Nat}{p:aH}{q:dN}(h:rV S w C p q)(k:aa All w w'):rV S w' C p q:=by obtain⟨j,I,vi,J,R,Y,ba,o,h1,h2,h3,h4,h5⟩:=h;exact⟨j,I,vi,J,R,Y,ba,o,h1.kept k trivial,cB.keep k.all h2,sI.keep k.all h3,h4.keep k trivial,h5.keep k trivial⟩
def ML (p:aH)(q:dN)(f:cD)(x:cX)(w:World)(e:Ending)(w':World):Prop:=
 ql (0≤dv p q f x∧0≤dy f x) (fun e w'=>e=.returned (.tuple #[.int .i64 (dv p q f x),.int .i64 (dy f x)])∧aa All w w') w e w'
theorem GO (S:Nat→Prop)(br:Nat)(p:aH)(q:dN)(f:cD)(x:cX)(b1 b2:Nat)(xa xf:Value)(w:World)(hr:rV S w br p q)(a8:cK w b1 (cn f))(b6:gB S w xa x.args)(b7:gB S w xf x.Nh)(hx:uB x):
 Calls prog 156 #[.pointer (some ⟨br,0,none⟩),.agg #[.map (some b1),.map (some b2)],.agg #[.int .u8 x.kind,.int .u8 x.op,.string x.dst,.string x.ref,.string x.Ni,xa,xf,.int .i64 x.num,.int .i64 x.Nj]] w (ML p q f x w):=by
 obtain⟨ua,uc,rfl,_⟩:=b6;obtain⟨va,vc,rfl,_⟩:=b7;obtain⟨c7,vu,vi,vo,pa,pf,ba,b8,h1,h2,h3,h4,h5⟩:=hr;have b9:=h2;obtain⟨P1,P2,P3,P4,a6,c0,c1,c4,c5,c6⟩:=b9;iterate 2 injection a6 with a6
 simp only[List.cons.injEq,and_true] at a6;obtain⟨rfl,rfl,rfl,rfl⟩:=a6;obtain⟨a1,n1,rfl,_⟩:=c0;obtain⟨a2,n2,rfl,_⟩:=c1;obtain⟨a3,n3,rfl,_⟩:=c4;obtain⟨a4,n4,rfl,_⟩:=c5;obtain⟨W1,R⟩:=eQ ((w.alloc (.cells #[.map (some b1),.map (some b2)] 131)).alloc (.cells #[.int .u8 x.kind,.int .u8 x.op,.string x.dst,.string x.ref,.string x.Ni,.slice ua x.args.length uc,.slice va x.Nh.length vc,.int .i64 x.num,.int .i64 x.Nj] 188));have I:=aC2 R;have bS:=aA1 R;have bX:=aB0 R aE1;have bR:=h1.kept I trivial;have x0:=bX.cl 0;have HM:=oH (show∀wn,aa All W1 wn→wn.cell? ⟨br,0,none⟩=some (.slice a1 p.MZ.length n1)∧wn.cell? ⟨br,1,none⟩=some (.slice a2 p.up.length n2)∧wn.cell? ⟨br,2,none⟩=some (.slice a3 p.Nb.length n3)∧wn.cell? ⟨br,3,none⟩=some (.slice a4 p.Na.length n4)∧wn.cell? ⟨br,4,none⟩=some (.int .i64 p.Nc)∧wn.cell? ⟨br,7,none⟩=some (.map (some ba))∧wn.cell? ⟨br,8,none⟩=some (.map (some b8))∧wn.cell? ⟨w.heap.size+1,3,none⟩=some (.string x.ref)∧wn.cell? ⟨w.heap.size+1,4,none⟩=some (.string x.Ni)∧wn.cell? ⟨w.heap.size+1,8,none⟩=some (.int .i64 x.Nj)∧wn.cell? ⟨w.heap.size,0,none⟩=some (.map (some b1)) from fun wn j=>⟨(bR.kept j trivial).cell 0,(bR.kept j trivial).cell 1,(bR.kept j trivial).cell 2,(bR.kept j trivial).cell 3,(bR.kept j trivial).cell 4,(bR.kept j trivial).cell 7,(bR.kept j trivial).cell 8,(bX.kept j trivial).cell 3,(bX.kept j trivial).cell 4,(bX.kept j trivial).cell 8,(bS.kept j trivial).cell 0⟩);have o:=J3 R I hx;have HC:=J3 (h4.keep I trivial) (h5.keep I trivial) (a8.keep I trivial);have Y:=oH (fun wn (j:aa All W1 wn)=>cB.keep (I.trans j).all h2);clear h1 h2 h3 h4 h5 R I bS bX bR hx a8 c6;go_enter func156,ntmps156;go_upto_region 1 with fail;rw[←o.1];by_cases h4:x.kind=4∨x.kind=5∨x.kind=6∨x.kind=7;·(
 rcases h4 with e|e|e|e
 all_goals
  first
  |go_upto_region 5 with fail
  |go_upto_region 7 with fail
  have HA:=oH (show dy f x=0 by unfold dy;simp[e]);refine R2 10 W1 (fun i=>if i=8 then some (·=.int .i64 (dv p q f x)) else none) (fun i=>i==8&&!decide (0≤dv p q f x)) (XS W1 (0≤dv p q f x∧0≤dy f x)) (fun _ _ _ h hd=>⟨hd,h.end_ o.2.1⟩) ?_;repeat first
  |refine O0 ?_
  |refine O4 HM.out ?_
  refine O9 (decide (0≤dv p q f x)) HM.out (fun wn j=>?_) ?_
  ·first
   |exact ZT HC.1 o.2.2.ref o.2.2.Nj (by unfold dv;simp[e]) (·.1) j
   |exact ZT HC.2.1 o.2.2.ref o.2.2.Nj (by unfold dv;simp[e]) (·.1) j
  refine O0 ?_;refine fun hd wt C _=>?_;have HD:=oH (show 0≤dv p q f x by simpa using hd);have J:=oH C;clear C hd;simp only[dK];go_wp2_with fail;go_ret2;exact .inl ⟨⟨HD.out,by rw[HA.out];omega⟩,by rw[HA.out]<;>rfl,o.2.1.trans J.out⟩)
 by_cases h8:x.kind=8∨x.kind=9∨x.kind=10∨x.kind=11;·(
 have HA:=oH (show dy f x=0 by unfold dy;rcases h8 with h|h|h|h<;>simp[h]);by_cases e:x.kind=11
 case' pos=>(have J:=oH (aa.refl All W1);have HE:=oH (show dv p q f x=aO (cn f) x.ref by unfold dv;simp[e]);go_upto_region 18 with fail;clear e;obtain⟨e0,e1,e2,e3,e4,e5,e6,e7,e8,e9,c8⟩:=HM.out W1 kR;go_wp2_with fail;have a7:=lQ b1 (cn f) x.ref x.Nj W1 HC.2.2 o.2.2.ref o.2.2.Nj;rw[←HE.out] at a7;refine a7.mono ?_;clear a7)
 case' neg=>(
 rcases (show x.kind=8∨x.kind=9∨x.kind=10 by omega) with e|e|e
 all_goals
  first
  |go_upto_region 9 with fail
  |go_upto_region 12 with fail
  |go_upto_region 15 with fail
  refine R0 12 W1 (fun i=>if i=6 then some (·=.tuple #[.int .i64 (max (dv p q f x) 0),.bool (decide (0≤dv p q f x))]) else none) ?_;repeat first
  |refine O0 ?_
  |refine O4 HM.out ?_
  refine O8 HM.out (fun wn j=>?_) ?_;·(
 first
 |(rw[show dv p q f x=fD p.Nb x.ref by unfold dv;simp[e]];exact(Dh S _ p x.ref wn (Y.out wn j)).mono fun e w' h=>⟨h.1,j.trans h.2,fun _ h=>by cases h⟩)
 |(rw[show dv p q f x=fD p.Na x.ref by unfold dv;simp[e]];exact(AJ S _ p x.ref wn (Y.out wn j)).mono fun e w' h=>⟨h.1,j.trans h.2,fun _ h=>by cases h⟩)
 |(rw[show dv p q f x=eZ p x.ref by unfold dv;simp[e]];exact(qB S _ p x.ref wn (Y.out wn j)).mono fun e w' h=>⟨h.1,j.trans h.2,fun _ h=>by cases h⟩))
  repeat refine O0 ?_
  refine aG fun wt C _=>?_;have J:=oH C;have e9:=(HM.out wt C).2.2.2.2.2.2.2.2.2.1;clear C;simp only[dK];go_wp2_with fail;refine(qab _ _ _ o.2.2.Nj).mono ?_)
 all_goals
  rintro e w4 (⟨hf,rfl,rfl⟩|⟨hf,⟨an,nn,b0,b3,b4,rfl⟩,b5⟩);·have HF:=oH hf;clear hf;go_wp2_with fail;go_ret2;exact .inl ⟨⟨HF.out,by rw[HA.out];omega⟩,by rw[HA.out]<;>rfl,o.2.1.trans J.out⟩
  have HS:=J4 hf b0 b3 (And.intro b4 b5);clear hf b0 b3 b4 b5;go_wp2_with fail;exact⟨rfl,.inr ⟨fun h=>by have h1:=h.1;have h2:=HS.1;omega,⟨an,nn,HS.2.1,HS.2.2.1,HS.2.2.2.1,rfl⟩,o.2.1.trans (J.out.trans HS.2.2.2.2)⟩⟩)
 by_cases e:x.kind=12;·(
 go_upto_region 20 with fail;refine R2 16 W1 (fun i=>if i=6 then some (·=.int .i64 (dv p q f x)) else if i=13 then some (·=.int .i64 (dy f x)) else none) (fun i=>if i=6 then !decide (0≤dv p q f x) else if i=13 then !decide (0≤dy f x) else false) (XS W1 (0≤dv p q f x∧0≤dy f x)) (fun _ _ _ h hd=>⟨hd,h.end_ o.2.1⟩) ?_;repeat first
 |refine O0 ?_
 |refine O4 HM.out ?_
 refine O9 (decide (0≤dv p q f x)) HM.out (fun wn j=>ZT HC.2.2 o.2.2.ref o.2.2.Nj (by unfold dv;simp[e]) (·.1) j) ?_;repeat first
 |refine O0 ?_
 |refine O4 HM.out ?_
 refine O9 (decide (0≤dy f x)) HM.out (fun wn j=>ZT HC.2.2 o.2.2.Ni o.2.2.Nj (by unfold dy;simp[e]) (·.2) j) ?_;repeat refine O0 ?_
 refine fun hd wt C _=>?_;have HD:=oH (show 0≤dv p q f x∧0≤dy f x by simpa using hd);have J:=oH C;clear C hd;simp only[dK];go_wp2_with fail;go_ret2;exact .inl ⟨HD.out,by rfl,o.2.1.trans J.out⟩)
 have HR:=oH (show dv p q f x=0∧dy f x=0 by unfold dv dy;constructor<;>repeat rw[ae (by omega)]);obtain⟨t4,t5,t6,t7,t8⟩:=And.intro (nK x.kind 4 (by omega)) (And.intro (nK x.kind 5 (by omega)) (And.intro (nK x.kind 6 (by omega)) (And.intro (nK x.kind 7 (by omega)) (nK x.kind 8 (by omega)))));have t9:=nK x.kind 9 (by omega);have t10:=nK x.kind 10 (by omega);have t11:=nK x.kind 11 (by omega);have t12:=nK x.kind 12 (by omega);clear h4 h8 e;go_wp2_with fail;go_ret2;exact .inl ⟨by rw[HR.1,HR.2];omega,by rw[HR.1,HR.2]<;>rfl,o.2.1⟩
end Go.Proofs.YtgdlhckhpolnnaaGreatDoor
