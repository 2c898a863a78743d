/- Part 45 of the proof of CallsShallow (its last part says what is proved). No condition. -/
import Derived.Test.YtncdbjponknakaaGreatDoorK43
namespace Go.Proofs.YtncdbjponknakaaGreatDoor
set_option maxRecDepth 100000
set_option maxHeartbeats 8000000
open Go.RowKit Go.Proofs.Tryz
section
open Go.RowKit Go.WideMaps Go.Maps
theorem Pm {S:Nat→Prop}{p:aH}{c:aE}{b:aw}(w:World)(x:bz)(a5 j:Value)(l:aK S w a5 x.args)(o:∃A m c,j=.slice A m c)(J:CA p c b x)(R:x.kind≠3):Calls prog 37 #[Oe x a5 j] w (dn w x):=by
 have Y:=J.kinds;have C:x.kind=1∨x.kind=2∨x.kind=4∨x.kind=5∨x.kind=6∨x.kind=7∨x.kind=8∨x.kind=9∨x.kind=10∨x.kind=11∨x.kind=12∨x.kind=13:=by omega
 rcases C with h|h|h|h|h|h|h|h|h|h|h|h;·exact Rn w x a5 j l o h
 ·exact Ro w x a5 j l o h (J.arg1 (by omega)).2
 ·exact Rp w x a5 j l o h (J.arg0 (by omega)).2
 ·exact Rq w x a5 j l o h (J.arg0 (by omega)).2
 ·exact Rr w x a5 j l o h (J.arg1 (by omega)).2
 ·exact Rs w x a5 j l o h
 ·exact Rt w x a5 j l o h
 ·exact Ru w x a5 j l o h (J.arg0 (by omega)).2
 ·exact QF w x a5 j l o h (J.arg0 (by omega)).2
 ·exact QG w x a5 j l o h
 ·exact QH w x a5 j l o h (J.arg0 (by omega)).2
 exact QI w x a5 j l o h (J.arg0 (by omega)).2
def NB (w:World)(b:Nat)(l:List Int)(i:Nat):Prop:=∃D:DataW Unit,w.ownsMap prog 3 (plainElem prog 3) b i D∧Tidy D∧∀k:Lit,∃x,D.atKey k (.lit (.int .i64 0))=.lit (.int .i64 x)∧(x=0∨x∈l)
theorem NB.new (w:World)(l:List Int):NB (w.alloc (.map #[] 0)) w.heap.size l 0:=⟨_,World.ownsMap_made _ _ _ _,tidy_empty,fun _=>⟨0,rfl,.inl rfl⟩⟩
theorem NB.done {w:World}{b i:Nat}{l:List Int}(h:NB w b l i)(hi:i≤l.length):nq w b l:=by obtain⟨D,j,o,C⟩:=h;exact⟨D,i,j,o,hi,C⟩
theorem NB.lt {w:World}{b i:Nat}{l:List Int}(h:NB w b l i):b<w.heap.size:=by obtain⟨D,h,_⟩:=h;exact h.lt
theorem NB.keep {S:Nat→Prop}{w o:World}{b i:Nat}{l:List Int}(h:NB w b l i)(k:aa S w o)(C:S b):NB o b l i:=by obtain⟨D,h,J⟩:=h;have j:=h.lt;obtain⟨es,clock,R,r⟩:=h;exact⟨D,⟨es,clock,(k.block b j C).trans R,r⟩,J⟩
theorem Of {w:World}{ops:Array Oper}{rest:List Oper}{o:Oper}{a:Act}{Q:Exit→Act→World→Prop}(hg:o.guard=none)(m x v:Operand)(R:o.op=Op.mapUpdate 109 m x v)
 (b i:Nat) (l:List Int) (hm:a.eval m=.map (some b)) (h:NB w b l i) (hl:i<1000000) (key val:Int) (hx:a.eval x=.int .i64 key) (hv:a.eval v=.int .i64 val) (hk:aV key) (j:val∈l) (Y:aV val)
 (hK:∀C,NB C b l (i+1)→w.grownBy C (some b)→wpList prog ops Q rest (a.put o.dst undef) C):wpList prog ops Q (o::rest) a w:=by
 obtain⟨D,hD,Z,hd⟩:=h;have J:∀z:Int,aV z→(Lit.int .i64 z).wf=true:=fun z hz=>by unfold aV at hz;simp[Lit.wf,IntKind.min,IntKind.max,IntKind.signed,IntKind.bits];omega
 refine wpList_mapUpdate_own (H:=Unit) w hg m x v 109 R 3 3 Qz underlying109 _ b i D hm hD (by unfold maxLen;omega) _ _ _ hx hv (keyOf_int_mk underlying3 (J _ hk)) _ []
  (plainElem_int underlying3 (J _ Y)) fun C h1 h2=>hK C ⟨_,h1,Z.put (show WideAt.IsKeyLit (.int .i64 key) from trivial) _,fun k=>?_⟩ h2
 by_cases e:k=.int .i64 key
 ·subst e
  exact⟨val,atKey_put_same Z.isMap (show WideAt.IsKeyLit (.int .i64 key) from trivial) _ _,.inr j⟩
 obtain⟨y,h3,h4⟩:=hd k;exact⟨y,by rw[atKey_put_other e];exact h3,h4⟩
def Qe (b:aw)(w:World)(e:Ending)(w':World):Prop:=∃A c,e=.returned (.slice A b.Ng.length c)∧aa All w w'∧RC (fun d=>w.heap.size≤d∧d<w'.heap.size) w' (.slice A b.Ng.length c) b.Ng
structure RI (B0 ob n:Nat)(w:World)(f:Nat→Value)(bl:List (List bz))(k:Nat):Prop where
 blk:al w ob 107 (dM (n*2) f)
 done:∀(i:Nat) l,bl[i]? =some l→i<k→QS (fun b=>B0≤b∧b<w.heap.size∧b≠ob) w [f (i*2),f (i*2+1)] l
 rest:∀i,k≤i→i<n→f (i*2)=.slice none 0 0∧f (i*2+1)=.slice none 0 0
def NN (f:Nat→Value)(k:Nat)(u v:Value):Nat→Value:=qd (qd f (k*2) u) (k*2+1) v
theorem NS (f:Nat→Value)(k:Nat)(u v:Value):NN f k u v (k*2)=u∧NN f k u v (k*2+1)=v:=by
 unfold NN qd;constructor;·rw[ae (by omega),ap rfl]
 rw[ap rfl]
theorem Oh (f:Nat→Value){k i:Nat}(u v:Value)(h:i≠k):NN f k u v (i*2)=f (i*2)∧NN f k u v (i*2+1)=f (i*2+1):=by
 unfold NN qd;constructor;·rw[ae (by omega),ae (by omega)]
 rw[ae (by omega),ae (by omega)]
theorem RU (f:Nat→Value)(k:Nat)(u v o:Value):qd (NN f k u v) (k*2) o=NN f k o v:=by
 funext i;unfold NN qd;by_cases j:i=k*2;·rw[ap j,ae (by omega),ap j]
 by_cases l:i=k*2+1;·rw[ae j,ap l,ap l]
 rw[ae j,ae l,ae j,ae l,ae j]
theorem RV (f:Nat→Value)(k:Nat)(u v l:Value):qd (NN f k u v) (k*2+1) l=NN f k u l:=by
 funext i;unfold NN qd;by_cases j:i=k*2+1;·rw[ap j,ap j]
 rw[ae j,ae j,ae j]
theorem Qd (f:Nat→Value)(k:Nat):NN f k (f (k*2)) (f (k*2+1))=f:=by
 funext i;unfold NN qd;by_cases j:i=k*2+1;·rw[ap j,j]
 by_cases l:i=k*2;·rw[ae j,ap l,l]
 rw[ae j,ae l]
theorem Po {l:List bz}{j:Nat}{x:bz}(h:l[j]? =some x):(x.kind=3→NF (l.take (j+1))=NF (l.take j)++[x]∧Nv (l.take (j+1))=Nv (l.take j))∧(x.kind≠3→NF (l.take (j+1))=NF (l.take j)∧Nv (l.take (j+1))=Nv (l.take j)++[x]):=by
 unfold NF Nv;rw[cU,h];constructor
 ·intro o
  simp[o]
 intro o;simp[o]
theorem Nx (x:bz)(a:Value):∃t q,ct x a=.iface t q:=by
 unfold ct
 repeat' split
 all_goals exact⟨_,_,rfl⟩
def Px (u:Value):Prop:=∃t q,u=.iface t q
def Ox (W:World)(x:bz)(y:Value)(w:World):Prop:=Px y∧∃a,y=ct x a∧aK (fun b=>W.heap.size≤b∧b<w.heap.size) w a (if x.kind=7 then x.args else [])
theorem Ox.keep {W:World}{x:bz}{v y:Value}{w o:World}(j:∀b,v.ownBlock=some b→b<W.heap.size)(k:aa (fun b=>v.ownBlock≠some b) w o)(h:Ox W x y w):Ox W x y o:=by obtain⟨C,a,J,R⟩:=h;exact⟨C,a,J,ah.wide (fun b (l:W.heap.size≤b∧b<w.heap.size)=>⟨l.1,Nat.lt_of_lt_of_le l.2 k.size⟩) (ah.keep (k.mono fun b l e=>by have:=j b e;omega) R)⟩
end
section
open Go.RowKit Go.WideMaps Go.Maps
theorem OL {S:Nat→Prop}{p:aH}{c:aE}(w:World)(bv:Value)(b:aw)(hb:qi p c b)(l1:bW S w bv b.Ng)(hS:∀d,S d→d<w.heap.size)(j9:∀l∈b.Ng,l.length≤100000):
 Calls prog 16 #[.agg #[.int .i64 b.params,.int .i64 b.vars,bv]] w (Qe b w):=by
 obtain⟨iA,e6,e7,e8,e9⟩:=info_parts Qs;have IA:=J4 e6 e7 e8 e9;clear e6 e7 e8 e9;obtain⟨iP,e6,e7,e8,e9⟩:=info_parts Qw;have IP:=J4 e6 e7 e8 e9;clear e6 e7 e8 e9;have hR:∀wn,aa S w wn→bW S wn bv b.Ng:=fun wn C=>bg.keep C l1;obtain⟨A1,c1,rfl,_⟩:=id l1;obtain⟨n,hn⟩:=eQ b.Ng.length;have u5:n≤64:=by rw[hn];exact hb.2.2.2.1
 have w7:n≤b.Ng.length:=eE hn;have w8:b.Ng.length≤n:=eE hn.symm;rw[←hn] at hR;obtain⟨W1,e3⟩:=eQ (w.alloc (.cells #[.int .i64 b.params,.int .i64 b.vars,.slice A1 b.Ng.length c1] 43));rw[←hn] at e3;have m8:aa All w W1:=by rw[e3];exact kR.alloc _
 have b1:al W1 w.heap.size 43 #[.int .i64 b.params,.int .i64 b.vars,.slice A1 n c1]:=by rw[e3];exact al.new _ _ _
 have m9:W1.heap.size=w.heap.size+1:=by rw[e3];simp
 obtain⟨Z,l2⟩:=eQ W1.heap.size;have u6:w.heap.size+1≤Z:=by omega
 have u7:Z≤w.heap.size+1:=by omega
 obtain⟨W2,j3⟩:=eQ (W1.alloc (.cells (dM (n*2) fun _=>.slice none 0 0) 107));have l3:aa All W1 W2:=by rw[j3];exact kR.alloc _
 have b2:al W2 Z 107 (dM (n*2) fun _=>.slice none 0 0):=by rw[j3,l2];exact al.new _ _ _
 have p7:=PQ n (by omega);have k2:=b1.cell 2;simp only[gc] at k2;have n0:=(b1.kept l3 trivial).cell 2;simp only[gc] at n0;have HW:=J10 e3 j3 (m8.trans l3) b2 l2 hR hS hb j9 hn;clear e3 j3 m8 l3 b1 b2 l2 m9 hR hS hb j9 l1;go_enter func16,ntmps16;go_upto_region 1 with fail;rw[←hn,←HW.1];clear hn;go_upto_region 2 with fail;rw[←HW.2.1,←HW.2.2.2.2.1];clear k2 p7;go_upto_region 3 with fail;clear n0;go_loopg [18] n (fun gg p8 wr=>∃(k:Nat) (f:Nat→Value),k≤n∧gg=n-k∧p8=.int .i64 k∧aa (fun d=>d≠Z) W2 wr∧RI w.heap.size Z n wr f b.Ng k);·exact⟨0,_,by omega,by omega,rfl,kR,⟨HW.2.2.2.1,fun i l _ h=>by omega,fun i _ _=>⟨rfl,rfl⟩⟩⟩
 obtain⟨k,f,C,rfl,rfl,c8,c9⟩:=hrel;by_cases p9:k<n;·(
 obtain⟨wo,q0⟩:=eQ wr;subst q0;obtain⟨l,hl⟩:∃l,b.Ng[k]? =some l:=⟨_,lG (by omega)⟩;have q4:=HW.2.2.2.2.2.2.2.2.1 l (mG hl);have h0:∀d,S d→d≠Z:=fun d o=>by have:=HW.2.2.2.2.2.2.1 d o;omega
 have l4:aa S w wo:=HW.2.2.1.all.trans (c8.mono h0);obtain⟨rb,ro,ru,rfl,_,n1,j4⟩:=bn (HW.2.2.2.2.2.1 wo l4) hl;obtain⟨A2,c2,rfl,_⟩:=id (show tZ S wo ru l from j4);obtain⟨m,hm⟩:=eQ l.length;have q5:m≤100000:=by omega
 have w9:m≤l.length:=eE hm;have q6:l.length≤m:=eE hm.symm;rw[←hm] at n1 j4;have q7:=HW.2.2.1.size;have q8:=c8.size;have h4:Z<wo.heap.size:=c9.blk.lt;have h5:=c9.rest k (cf _) p9;have HR:=J7 hl j4 l4 c8 c9 h5 hm;clear hl q4 j4 l4 c8 c9 h5 hm;go_upto_region 6 with fail;clear n1;go_loopg [25] m (fun gg q9 ws=>∃(j:Nat) (u v:Value),j≤m∧gg=m-j∧q9=.int .i64 j∧aa (fun d=>d≠Z) wo ws∧al ws Z 107 (dM (n*2) (NN f k u v))∧OV wo.heap.size ws u v (NF (l.take j)) (Nv (l.take j)));·exact⟨0,.slice none 0 0,.slice none 0 0,by omega,by omega,rfl,kR,by rw[show(.slice none 0 0:Value)=f (k*2) from HR.2.2.2.2.2.1.1.symm,show NN f k (f (k*2)) (f (k*2))=NN f k (f (k*2)) (f (k*2+1)) by rw[HR.2.2.2.2.2.1.1,HR.2.2.2.2.2.1.2],Qd];exact HR.2.2.2.2.1.blk,OV.nil⟩
 obtain⟨j,u,v,hj,rfl,rfl,d7,j5,d8⟩:=hrel;obtain⟨ws,r0⟩:=eQ wr;subst r0;by_cases x9:j<m;·(
 obtain⟨x,hx⟩:∃x,l[j]? =some x:=⟨_,lG (by omega)⟩;have n2:aa S w ws:=HR.2.2.1.trans (d7.mono h0);obtain⟨xb,xo,y0,rfl,_,_,b7,xa,xf,rfl,n3,n4,n5⟩:=aZ (show tZ S ws _ l from cT.keep (d7.mono h0) HR.2.1) hx;have hF:=NW HW.2.2.2.2.2.2.2.1 (mG HR.1) (mG hx);have n6:=(Kj HW.2.2.2.2.2.2.2.1).phi l (mG HR.1) x (mG hx);have l5:=Po hx;obtain⟨lp,l6⟩:=eQ (NF (l.take j));obtain⟨lo,l7⟩:=eQ (Nv (l.take j));rw[←l6,←l7] at d8 l5;have u9:lo.length≤m:=by rw[l7];have:=List.length_filter_le (fun x:bz=>x.kind !=3) (l.take j);rw[fN] at this;unfold Nv;omega
 have v7:lp.length≤m:=by rw[l6];have:=List.length_filter_le (fun x:bz=>x.kind==3) (l.take j);rw[fN] at this;unfold NF;omega
 clear l6 l7;obtain⟨⟨uA,uc,rfl⟩,⟨vA,vc,rfl⟩⟩:=d8.forms;have h6:=ah.la n3;have h7:=ah.la n4;have n7:=b7 0 _ rfl;have r3:=b7 1 _ rfl;have r4:=b7 2 _ rfl;have r5:=b7 3 _ rfl;have r6:=b7 4 _ rfl;have n8:=b7 5 _ rfl;have n9:=b7 6 _ rfl;have r7:=b7 7 _ rfl;have r8:=b7 8 _ rfl;rw[dj] at n7;obtain⟨xa,ca,rfl,_,_,r9,_⟩:=n3;obtain⟨xf,cfqq,rfl,_,_,s0,_⟩:=n4;obtain⟨na,l8⟩:=eQ x.args.length;obtain⟨R,b9⟩:=eQ x.Nh.length;rw[←l8] at n8 h6 r9;rw[←b9] at n9 h7 s0;obtain⟨W5,j6⟩:=eQ (ws.alloc (.cells #[.int .u8 x.kind,.int .u8 x.op,.int .i64 x.dst,.int .i64 x.ref,.int .i64 x.Ni,.slice xa na ca,.slice xf R cfqq,.int .i64 x.num,.int .i64 x.Nj] 47));have o0:aa All ws W5:=by rw[j6];exact kR.alloc _
 have b5:al W5 ws.heap.size 47 #[.int .u8 x.kind,.int .u8 x.op,.int .i64 x.dst,.int .i64 x.ref,.int .i64 x.Ni,.slice xa na ca,.slice xf R cfqq,.int .i64 x.num,.int .i64 x.Nj]:=by rw[j6];exact ac rfl
 have HX:=oH (show∀wn,aa All W5 wn→wn.cell? ⟨ws.heap.size,0,none⟩=some (.int .u8 x.kind)∧wn.cell? ⟨ws.heap.size,1,none⟩=some (.int .u8 x.op)∧wn.cell? ⟨ws.heap.size,2,none⟩=some (.int .i64 x.dst)∧wn.cell? ⟨ws.heap.size,3,none⟩=some (.int .i64 x.ref)∧wn.cell? ⟨ws.heap.size,4,none⟩=some (.int .i64 x.Ni)∧wn.cell? ⟨ws.heap.size,5,none⟩=some (.slice xa na ca)∧wn.cell? ⟨ws.heap.size,6,none⟩=some (.slice xf R cfqq)∧wn.cell? ⟨ws.heap.size,7,none⟩=some (.int .i64 x.num)∧wn.cell? ⟨ws.heap.size,8,none⟩=some (.int .i64 x.Nj) from fun wn C=>⟨(b5.kept C trivial).cell 0,(b5.kept C trivial).cell 1,(b5.kept C trivial).cell 2,(b5.kept C trivial).cell 3,(b5.kept C trivial).cell 4,(b5.kept C trivial).cell 5,(b5.kept C trivial).cell 6,(b5.kept C trivial).cell 7,(b5.kept C trivial).cell 8⟩);have HO:=J8 hF n6 l5 h6 h7 n5 l8 b9;have HS:=J6 d7 j5 d8 j6 o0 hx;clear hF n6 l5 h6 h7 n5 l8 b9 d7 j5 d8 j6 o0 b5 hx n2 b7;go_upto_region 8 with fail;rw[←HS.2.2.2.1];clear n7 r3 r4 r5 r6 n8 n9 r7 r8;obtain⟨x0,_⟩:=HX.out W5 kR;by_cases h3:x.kind=3;·(
 have t3:=wK x.kind 3 (by omega);have H3:=oH h3;obtain⟨s3,s4,s5⟩:=HO.2.1 h3;clear h3;have b9:R=x.Nh.length:=HO.2.2.2.2.2.2.2;have o1:na=x.args.length:=HO.2.2.2.2.2.2.1;have y1:R≤64:=by omega
 have y2:R≤na:=by omega
 have v8:na≤R:=by omega
 have y3:x.args.length≤R:=by omega
 have w0:R≤x.args.length:=by omega
 have w1:x.Nh.length≤R:=by omega
 have w2:R≤x.Nh.length:=by omega
 clear s3 s4 s5 b9 o1;have o2:=HS.2.2.2.2.1.size;have o3:=HS.1.size;obtain⟨mg,h8⟩:=eQ W5.heap.size;obtain⟨W6,i0⟩:=eQ ((W5.alloc (.map #[] 0)).alloc (.cells #[.int .i64 x.dst,.map (some mg)] 111));have i1:aa All W5 W6:=by rw[i0];exact(kR.alloc _).alloc _
 have b6:al W6 (mg+1) 111 #[.int .i64 x.dst,.map (some mg)]:=by rw[i0,h8];exact ac (by simp)
 have m6:NB W6 mg x.args 0:=by rw[i0,h8];exact(NB.new W5 x.args).keep ((aa.refl All _).alloc _) trivial
 have w3:W5.heap.size≤mg:=eE h8.symm;have s6:=@run_makeMap prog;obtain⟨_,_,x2,_⟩:=HX.out W5 kR;have HM:=J5 i0 i1 b6 m6 h8;clear i0 i1 b6 m6 h8;go_upto_region 11 with fail;rw[←HM.2.2.2.2,←HM.1];clear x0 x2 s6;obtain⟨_,_,_,_,_,_,x6,_⟩:=HX.out W6 HM.2.1;go_upto_region 12 with fail;clear x6;go_loopg [52] R (fun gg s7 wq=>∃i:Nat,i≤R∧gg=R-i∧s7=.int .i64 i∧aa (fun d=>d≠mg) W6 wq∧NB wq mg x.args i);·exact⟨0,by omega,by omega,rfl,kR,HM.2.2.2.1⟩
 obtain⟨i,hi,rfl,rfl,b3,j7⟩:=hrel;have b8:aa All W5 wr:=am ((HM.2.1.all (S:=fun d=>d<W5.heap.size)).trans (b3.mono fun d o=>by show d≠mg;omega));by_cases y4:i<R
 ·obtain⟨fb,fo,fx,rfl,_,s8,s9⟩:=IU (HO.2.2.2.2.1 wr (HS.2.2.2.2.1.trans b8)) (i:=i) (by omega);obtain⟨ax,l9⟩:∃ax,x.args[i]? =some ax:=⟨_,lG (by omega)⟩;obtain⟨ab,ao,y5,rfl,_,o4,rfl,k0⟩:=bn (HO.2.2.2.1 wr (HS.2.2.2.2.1.trans b8)) l9;have HQ:=oH (show∀wn,aa All wr wn→wn.cell? ⟨mg+1,1,none⟩=some (.map (some mg))∧wn.cell? ⟨ws.heap.size,5,none⟩=some (.slice (some ⟨ab,ao,none⟩) na ca)∧wn.cell? ⟨ab,ao+i,none⟩=some (.int .i64 ax) from fun wn C=>⟨((HM.2.2.1.kept b3 (by show mg+1≠mg;omega)).kept C trivial).cell 1,C.cell (p:=⟨ws.heap.size,5,none⟩) trivial (HX.out wr b8).2.2.2.2.2.1,C.cell (p:=⟨ab,ao+i,none⟩) trivial o4⟩);have k1:=mG l9;have i2:=J5 b3 j7 k1 s9 (rs k0);clear b3 j7 l9 k1 b8 o4 k0;go_upto_region 14 with fail;clear s8;have w4:i<na:=by omega
  refine R0 8 wr (fun _=>none) ?_;refine O0 ?_;refine O4 HQ.out ?_;iterate 2 refine O0 ?_
  refine O4 HQ.out ?_;iterate 2 refine O0 ?_
  refine O4 HQ.out ?_;refine aG fun y7 i4 hF=>?_;have o5:=oH i4;clear i4 hF;simp only[List.drop_succ_cons];refine Of rfl (.tmp 58) (.tmp 59) (.tmp 64) rfl mg i x.args rfl (i2.2.1.keep o5.out trivial) (by omega) fx ax rfl rfl i2.2.2.2.1 i2.2.2.1 i2.2.2.2.2 fun u0 k3 k4=>?_;have HP:=J2 k3 (show aa (fun d=>d≠mg) W6 u0 from(i2.1.trans o5.out.all).grown k4 fun d o=>.inl fun h=>h (by cases o;rfl));clear k3 k4;go_wp2_with fail;go_roundg (R-(i+1));·exact⟨i+1,by omega,rfl,by go_num,HP.2,HP.1⟩
  omega
 obtain rfl:i=R:=by omega
 have m0:=j7.done (by omega);obtain⟨m1,m2,o6,o7⟩:=HS.2.2.1.phi;have c0:aa All ws wr:=HS.2.2.2.2.1.trans b8;have e4:∀d,(Value.slice uA lp.length uc).ownBlock=some d→wo.heap.size≤d∧d<ws.heap.size:=fun d o=>aD m2 o;have k5:∀d,(Value.slice uA lp.length uc).ownBlock=some d→d<wr.heap.size:=fun d o=>Nat.lt_of_lt_of_le (e4 d o).2 c0.size;have i5:(Value.slice uA lp.length uc).ownBlock≠some Z:=fun h=>by have:=(e4 Z h).1;omega
 have k6:=be (S:=All) m2 c0 fun _ _=>trivial;have b4:=HS.2.1.kept c0 trivial;have Y:=b4.cell (k*2);rw[cq (by omega),(NS _ _ _ _).1] at Y;have i6:=HM.2.2.1.kept b3 (by show mg+1≠mg;omega);have u1:=m0.lt;have w5:=c0.size;have HV:=oH (show∀wn,aa (fun d=>(Value.slice uA lp.length uc).ownBlock≠some d) wr wn→wn.cell? ⟨Z,k*2,none⟩=some (.slice uA lp.length uc)∧wn.cell? ⟨mg+1,0,none⟩=some (.int .i64 x.dst)∧wn.cell? ⟨mg+1,1,none⟩=some (.map (some mg)) from fun wn C=>⟨C.cell (p:=⟨Z,k*2,none⟩) i5 Y,C.cell (p:=⟨mg+1,0,none⟩) (fun h=>by have h9:mg+1<ws.heap.size:=(e4 _ h).2;omega) (i6.cell 0),C.cell (p:=⟨mg+1,1,none⟩) (fun h=>by have h9:mg+1<ws.heap.size:=(e4 _ h).2;omega) (i6.cell 1)⟩);have k7:=HS.2.2.1.keep (S:=All) c0 fun _ _=>trivial;have k8:∀(i:Nat) z,lp[i]? =some z→∃g,m1[i]? =some [.int .i64 z.dst,.map (some g)]∧wo.heap.size≤g∧nq wr g z.args:=fun i z hz=>by obtain⟨g,q1,q2,q3⟩:=o7 i z hz;exact⟨g,q1,q2,q3.keep c0 trivial⟩
 have a1:=J10 k6 k8 b4 i5 e4 k5 o6 k7 m0 c0;clear k6 k8 o7 b4 i5 e4 o6 k7 m0 c0 m2 Y i6 b3 j7 b8;go_upto_region 16 with fail;refine bq 10 (DL wr wo.heap.size 111 2 (.slice uA lp.length uc) lp.length m1.flatten) [74,75] (NH wr wo.heap.size 111 2 (.slice uA lp.length uc) lp.length m1.flatten [.int .i64 x.dst,.map (some mg)] 74) (fun i=>if i=9 then some (NT lp.length) else if i=8 then some Oa else none) (fun _=>false) (fun _ _=>False) (by kernel_rfl) (by kernel_rfl) (by kernel_rfl) (by kernel_rfl) (DL.first a1.1) (fun _ _ _ h=>h.elim) ?_;simp only[tK];iterate 6 refine O0 ?_
 iterate 2 refine O3 (fun wn C hp=>by(obtain⟨v0,v1,v2⟩:=HV.out wn C.1;go_simp;with_reducible rfl)) ?_
 refine PE (by rfl) (by rfl) (by rfl) rfl (fun wn C hp=>by(skip;go_simp<;>with_reducible rfl)) ?_;intro g;simp only[PS];refine Ov (by rfl) (by rfl) (by rfl) rfl (by decide) (.tmp 72) 105 rfl iP _ 16 underlying105 IP.1 IP.2.1 IP.2.2.1 IP.2.2.2 rfl (by decide) rfl g rfl (by decide) rfl (by intro u hu;simp only[fX,List.not_mem_nil,or_false] at hu;rcases hu with rfl|rfl<;>rfl) (by unfold maxLen;omega) (by omega) (by omega) k5 ?_;intro A5 c5;simp only[PS];refine aG fun i7 i4 hF=>?_;have c3:=hF 75 (by simp) _ rfl;unfold NH at c3;rw[ae (by decide)] at c3;have e5:=J2 i4.1 c3;clear i4 hF c3;simp only[dK];have a7:=a1.2.2.1.kept e5.1 a1.2.2.2.1;have z0:=a7.cell (k*2);rw[cq (by omega),(NS _ _ _ _).1] at z0;have zf:=a7.free (k*2);have u2:=oH a7;clear a7;go_wp2_with fail;have d9:=u2.out.set (k*2) (.slice A5 (lp.length+1) c5);rw[jo,RU] at d9;have o8:=e5.1.size;have c4:=a1.2.2.2.2.2.2.2.1.addPhi a1.2.2.2.2.2.2.1 a1.2.1 a1.1 e5.1 e5.2.1 (by omega) a1.2.2.2.2.2.2.2.2.1 e5.2.2;have b0:aa (fun d=>d≠Z) i7 (i7.setCell ⟨Z,k*2,none⟩ (.slice A5 (lp.length+1) c5)):=(aa.refl _ i7).setCell (p:=⟨Z,k*2,none⟩) (.inl fun h=>h rfl) _;have c6:=c4.keep b0 (fun d o=>by show d≠Z;omega);have J:aa (fun d=>(Value.slice uA lp.length uc).ownBlock≠some d) ws i7:=a1.2.2.2.2.2.2.2.2.2.all.trans e5.1;have j0:aa (fun d=>d≠Z) wo (i7.setCell ⟨Z,k*2,none⟩ (.slice A5 (lp.length+1) c5)):=⟨b0.os.trans (J.os.trans HS.1.os),b0.output.trans (J.output.trans HS.1.output),fR HS.1.size (fR J.size b0.size),fun d o j1=>(b0.block d (by have:=J.size;omega) j1).trans ((J.block d (by omega) (fun e=>by have:=(a1.2.2.2.2.1 d e).1;omega)).trans (HS.1.block d o j1))⟩;have e0:=J3 j0 d9 c6;clear J d9 c4 b0 c6 j0;go_roundg (m-(j+1));·exact⟨j+1,.slice A5 (lp.length+1) c5,.slice vA lo.length vc,by omega,rfl,by go_num,e0.1,e0.2.1,by rw[(HO.2.2.1.1 H3.out).1,(HO.2.2.1.1 H3.out).2];exact e0.2.2⟩
 omega)
 have t3:=mK x.kind 3 (by omega);obtain⟨vs,j8,o9⟩:=HS.2.2.1.op;have a8:∀d,(Value.slice vA lo.length vc).ownBlock=some d→wo.heap.size≤d∧d<ws.heap.size:=fun d o=>aD j8 o;have c7:∀d,(Value.slice vA lo.length vc).ownBlock=some d→d<W5.heap.size:=fun d o=>Nat.lt_of_lt_of_le (a8 d o).2 HS.2.2.2.2.1.size;have j2:(Value.slice vA lo.length vc).ownBlock≠some Z:=fun h=>by have:=(a8 Z h).1;omega
 have p0:∀d,S d→(Value.slice vA lo.length vc).ownBlock≠some d:=fun d o h=>by have h1:=HW.2.2.2.2.2.2.1 d o;have h2:=(a8 d h).1;omega
 have hC:∀y w w',aa (fun d=>(Value.slice vA lo.length vc).ownBlock≠some d) w w'→Ox W5 x y w→Ox W5 x y w':=fun y w w' k h=>h.keep c7 k;have m3:W5.ownsRow wo.heap.size 20 1 (.slice vA lo.length vc) lo.length vs:=be j8 HS.2.2.2.2.1 fun _ _=>trivial;have b4:=(HS.2.1.kept HS.2.2.2.2.1 trivial);have Y:=b4.cell (k*2+1);rw[cq (by omega),(NS _ _ _ _).2] at Y;have HV:=oH (show∀wn,aa (fun d=>(Value.slice vA lo.length vc).ownBlock≠some d) W5 wn→wn.cell? ⟨Z,k*2+1,none⟩=some (.slice vA lo.length vc)∧wn.cell? ⟨ws.heap.size,0,none⟩=some (.int .u8 x.kind)∧wn.cell? ⟨ws.heap.size,1,none⟩=some (.int .u8 x.op)∧wn.cell? ⟨ws.heap.size,2,none⟩=some (.int .i64 x.dst)∧wn.cell? ⟨ws.heap.size,3,none⟩=some (.int .i64 x.ref)∧wn.cell? ⟨ws.heap.size,4,none⟩=some (.int .i64 x.Ni)∧wn.cell? ⟨ws.heap.size,5,none⟩=some (.slice xa na ca)∧wn.cell? ⟨ws.heap.size,6,none⟩=some (.slice xf R cfqq)∧wn.cell? ⟨ws.heap.size,7,none⟩=some (.int .i64 x.num)∧wn.cell? ⟨ws.heap.size,8,none⟩=some (.int .i64 x.Nj) from fun wn C=>⟨C.cell (p:=⟨Z,k*2+1,none⟩) j2 Y,C.cell (p:=⟨ws.heap.size,0,none⟩) (fun h=>by have h9:ws.heap.size<ws.heap.size:=(a8 _ h).2;omega) ((HX.out W5 kR).1),C.cell (p:=⟨ws.heap.size,1,none⟩) (fun h=>by have h9:ws.heap.size<ws.heap.size:=(a8 _ h).2;omega) ((HX.out W5 kR).2.1),C.cell (p:=⟨ws.heap.size,2,none⟩) (fun h=>by have h9:ws.heap.size<ws.heap.size:=(a8 _ h).2;omega) ((HX.out W5 kR).2.2.1),C.cell (p:=⟨ws.heap.size,3,none⟩) (fun h=>by have h9:ws.heap.size<ws.heap.size:=(a8 _ h).2;omega) ((HX.out W5 kR).2.2.2.1),C.cell (p:=⟨ws.heap.size,4,none⟩) (fun h=>by have h9:ws.heap.size<ws.heap.size:=(a8 _ h).2;omega) ((HX.out W5 kR).2.2.2.2.1),C.cell (p:=⟨ws.heap.size,5,none⟩) (fun h=>by have h9:ws.heap.size<ws.heap.size:=(a8 _ h).2;omega) ((HX.out W5 kR).2.2.2.2.2.1),C.cell (p:=⟨ws.heap.size,6,none⟩) (fun h=>by have h9:ws.heap.size<ws.heap.size:=(a8 _ h).2;omega) ((HX.out W5 kR).2.2.2.2.2.2.1),C.cell (p:=⟨ws.heap.size,7,none⟩) (fun h=>by have h9:ws.heap.size<ws.heap.size:=(a8 _ h).2;omega) ((HX.out W5 kR).2.2.2.2.2.2.2.1),C.cell (p:=⟨ws.heap.size,8,none⟩) (fun h=>by have h9:ws.heap.size<ws.heap.size:=(a8 _ h).2;omega) ((HX.out W5 kR).2.2.2.2.2.2.2.2)⟩);have m4:=oH (fun wn (C:aa (fun d=>(Value.slice vA lo.length vc).ownBlock≠some d) W5 wn)=>Pm (S:=S) (p:=p) (c:=c) (b:=b) wn x (.slice xa na ca) (.slice xf R cfqq) (ah.keep (C.mono p0) (HO.2.2.2.1 W5 HS.2.2.2.2.1)) ⟨_,_,_,rfl⟩ HO.1 h3);have a1:=J6 j8 o9 b4 j2 a8 c7;clear j8 o9 b4 j2 a8 Y p0;have o2:=HS.2.2.2.2.1.size;have o3:=HS.1.size;go_upto_region 9 with fail;clear x0;refine bq 11 (DL W5 wo.heap.size 20 1 (.slice vA lo.length vc) lo.length vs) [40,41,42] (Nn W5 wo.heap.size 20 (.slice vA lo.length vc) lo.length vs (Ox W5 x) 41 40) (fun i=>if i=8 then some Px else if i=9 then some Oa else if i=10 then some (NT lo.length) else none) (fun _=>false) (fun _ _=>False) (by kernel_rfl) (by kernel_rfl) (by kernel_rfl) (by kernel_rfl) (DL.first m3) (fun _ _ _ h=>h.elim) ?_;simp only[tK];iterate 6 refine O0 ?_
 iterate 2 refine O3 (fun wn C hp=>by(obtain⟨v0,x0,x1,x2,x3,x4,x5,x6,x7,x8⟩:=HV.out wn C.1;go_simp;with_reducible rfl)) ?_
 refine O6 (fun wn C hp=>?_) (fun wn C hp=>?_) ?_
 ·go_simp
  refine(m4.out wn C.1).mono ?_;rintro en wq ⟨a,rfl,b3,hq⟩;exact .inl ⟨rfl,_,rfl,Nx x a,C.keep b3,fun t _ u hu=>hu.keep hC b3 t u,fun d o _=>by cases o;unfold Nn;rw[ae (by decide),ap rfl];exact⟨Nx x a,a,rfl,ah.wide (fun b (hb:wn.heap.size≤b∧b<wq.heap.size)=>⟨fR C.1.size hb.1,hb.2⟩) hq⟩⟩
 ·obtain⟨en,wq,_,⟨a,rfl,b3,hq⟩,_⟩:=(m4.out wn C.1) []
  exact⟨_,wq,Nx x a,C.keep b3,fun t _ u hu=>hu.keep hC b3 t u,fun d o _=>by cases o;unfold Nn;rw[ae (by decide),ap rfl];exact⟨Nx x a,a,rfl,ah.wide (fun b (hb:wn.heap.size≤b∧b<wq.heap.size)=>⟨fR C.1.size hb.1,hb.2⟩) hq⟩⟩
 rintro yv ⟨ty,qy,rfl⟩;simp only[PS];refine NX (by rfl) (by rfl) (by rfl) rfl (by decide) hC (.iface ty qy) rfl (by decide) (fun wn C=>by(go_simp<;>with_reducible rfl)) ?_;intro g;simp only[PS];refine NG (by rfl) (by rfl) (by rfl) rfl (by decide) (by decide) hC (.tmp 38) 104 rfl iA _ 16 underlying104 IA.1 IA.2.1 IA.2.2.1 IA.2.2.2 rfl rfl g rfl (by decide) (fun y w h=>by obtain⟨⟨t,q,rfl⟩,_⟩:=h;rfl) (by unfold maxLen;omega) (by omega) (by omega) c7 ?_;intro A5 c5;simp only[PS];refine aG fun w6 i1 p1=>?_;have c3:=p1 42 (by simp) _ rfl;unfold Nn at c3;rw[ae (by decide),ae (by decide)] at c3;obtain⟨y6,wz,p2,⟨_,a6,p3,p4⟩,u3,m5,m7⟩:=c3;have k9:aK (fun d=>ws.heap.size≤d∧d<w6.heap.size∧(Value.slice A5 (lo.length+1) c5).ownBlock≠some d) w6 a6 (if x.kind=7 then x.args else []):=ah.wide (fun d (o:W5.heap.size≤d∧d<wz.heap.size)=>⟨by omega,Nat.lt_of_lt_of_le o.2 m5.size,fun e=>by
  rcases m7 with e2|e2;·have:=c7 d (e2.symm.trans e);omega
  have:=e2 d e;omega⟩) (ah.keep (m5.mono fun d o e=>by have:=c7 d e;have:=o.1;omega) p4)
 have l0:(Value.slice A5 (lo.length+1) c5).ownBlock=(Value.slice vA lo.length vc).ownBlock∨∀g,(Value.slice A5 (lo.length+1) c5).ownBlock=some g→ws.heap.size≤g:=by
  rcases m7 with e|e;·exact .inl e
  exact .inr fun g hg=>by have:=e g hg;omega
 simp only[dK];have e1:=i1.1;have o8:=e1.size;have a7:=a1.2.2.1.kept e1 a1.2.2.2.1;have z0:=a7.cell (k*2+1);rw[cq (by omega),(NS _ _ _ _).2] at z0;have zf:=a7.free (k*2+1);have H6:=J6 e1 a7 p2 p3 k9 l0;clear i1 p1 e1 a7 p2 p3 p4 m7 HV m4 k9 l0 u3 m5;go_wp2_with fail;have J:aa (fun d=>(Value.slice vA lo.length vc).ownBlock≠some d) ws w6:=HS.2.2.2.2.1.all.trans H6.1;have d9:=H6.2.1.set (k*2+1) (.slice A5 (lo.length+1) c5);rw[jo,RV] at d9;have c4:=HS.2.2.1.addOp a1.2.1 a1.1 J H6.2.2.1 H6.2.2.2.1 H6.2.2.2.2.1 HO.2.2.2.2.2.1 (by omega) H6.2.2.2.2.2;have b0:aa (fun d=>d≠Z) w6 (w6.setCell ⟨Z,k*2+1,none⟩ (.slice A5 (lo.length+1) c5)):=(aa.refl _ w6).setCell (p:=⟨Z,k*2+1,none⟩) (.inl fun h=>h rfl) _;have c6:=c4.keep b0 (fun d o=>by show d≠Z;omega);have j0:aa (fun d=>d≠Z) wo (w6.setCell ⟨Z,k*2+1,none⟩ (.slice A5 (lo.length+1) c5)):=⟨b0.os.trans (J.os.trans HS.1.os),b0.output.trans (J.output.trans HS.1.output),fR HS.1.size (fR J.size b0.size),fun d o j1=>(b0.block d (by have:=J.size;omega) j1).trans ((J.block d (by omega) (fun e=>by have:=(a1.2.2.2.2.1 d e).1;omega)).trans (HS.1.block d o j1))⟩;have e0:=J3 j0 d9 c6;clear J d9 c4 b0 c6 j0;go_roundg (m-(j+1));·exact⟨j+1,.slice uA lp.length uc,.slice A5 (lo.length+1) c5,by omega,rfl,by go_num,e0.1,e0.2.1,by rw[(HO.2.2.1.2 h3).1,(HO.2.2.1.2 h3).2];exact e0.2.2⟩
 omega)
 obtain rfl:j=m:=by omega
 rw[oF q6] at d8;have p5:=d8.read h4 (by omega);have p6:=d7.size;have HZ:=J3 d7 j5 p5;clear d7 j5 d8 p5;go_wp2_with fail;go_roundg (n-(k+1))
 ·refine⟨k+1,NN f k u v,by omega,rfl,by go_num,HR.2.2.2.1.trans HZ.1,⟨HZ.2.1,fun i z hz hi=>?_,fun i hi u4=>?_⟩⟩
  ·by_cases e:i=k;·subst e;rw[HR.1] at hz;cases hz;rw[(NS f i u v).1,(NS f i u v).2];exact NV.wide (fun d (o:wo.heap.size≤d∧d<_∧d≠Z)=>⟨by omega,o.2⟩) HZ.2.2
   rw[(Oh f u v e).1,(Oh f u v e).2];exact NV.wide (fun d (o:w.heap.size≤d∧d<wo.heap.size∧d≠Z)=>⟨o.1,Nat.lt_of_lt_of_le o.2.1 p6,o.2.2⟩) (NV.keep (HZ.1.mono fun d o=>o.2.2) (HR.2.2.2.2.1.done i z hz (by omega)))
  rw[(Oh f u v (by omega)).1,(Oh f u v (by omega)).2];exact HR.2.2.2.2.1.rest i (by omega) u4
 omega)
 obtain rfl:k=n:=by omega
 have q7:=HW.2.2.1.size;have q8:=c8.size;have h4:Z<wr.heap.size:=c9.blk.lt;have HZ:=J2 c8 c9;clear c8 c9;go_wp2_with fail;go_ret;have hn:=HW.2.2.2.2.2.2.2.2.2;refine⟨some ⟨Z,0,none⟩,k,by rw[←hn];rfl,am ((HW.2.2.1.all (S:=fun d=>d<w.heap.size)).trans (HZ.1.mono fun d o=>by show d≠Z;omega)),some ⟨Z,0,none⟩,k,rfl,by omega,by unfold maxLen;omega,by omega,fun i z hz=>?_⟩;have hi:=(lS.1 hz).1;refine⟨Z,0,_,rfl,⟨by omega,h4⟩,rfl,fun j d o=>?_,NV.wide (fun d (o:w.heap.size≤d∧d<wr.heap.size∧d≠Z)=>⟨o.1,o.2.1⟩) (HZ.2.done i z hz (by omega))⟩;rw[cN,HZ.2.blk.cell]
 match j,o with
 |0,o=>cases o;rw[dj];exact cq (by omega)
 |1,o=>cases o;exact cq (by omega)
 |j+2,o=>simp at o
end
theorem Rm {w:World}{base n:Nat}{t:TypeId}{v:Value}{l:List Value}(h:w.ownsRow base t 5 v n l)(hn:n≤2097153)(he:∀u∈l,u.oneCell'=true):rx 5 40 (PH 5) All w v (List.replicate n ()):=by
 obtain⟨o,h⟩:=h;rcases h with ⟨rfl,C⟩|⟨g,cap,cur,rfl,hb,J,R,hm,hs,Y⟩
 ·subst C
  exact rx.nil
 refine⟨_,cap,by rw[List.length_replicate],by rw[List.length_replicate];exact R,hm,by rw[List.length_replicate];omega,fun i x Z=>?_⟩;have hi:i<n:=by have:=(lS.1 Z).1;simpa using this
 refine⟨g,0,(l.drop (i*5)).take 5,rfl,trivial,by rw[fN,List.length_drop];omega,fun j u hu=>?_,by rw[fN,List.length_drop];omega,fun u hu=>he u (List.mem_of_mem_drop (List.mem_of_mem_take hu))⟩;have hj:j<5:=by have:=(lS.1 hu).1;rw[fN] at this;omega
 rw[rY hj,List.getElem?_drop,←Y,rY (by omega)] at hu;have hB:al w g t cur:=J;rw[show 0+i*5+j=i*5+j by omega,hB.cell];simpa using hu
theorem Ra (A:Option Addr)(n c:Nat)(w:World)(h:n≤c):Calls prog 40 #[.slice A n c] w fun e j=>e=.returned (.slice A n n)∧j=w:=by go_enter func40,ntmps40;go_wp2_with fail;go_ret;exact⟨rfl,rfl⟩
theorem Qc (M:sm)(w:World)(e:Nat)(h:tv M w e):Calls prog 19 #[.pointer (some ⟨M.bb,0,none⟩)] w fun en Z=>∃v,en=.returned v∧(∃A n c,v=.slice A n c)∧aa All w Z:=by obtain⟨_,A,n,c,a1,C,J,hn,he⟩:=h;have b7:=C.cell 7;simp only[gc] at b7;have R:=Rm J hn.2 he;have HC:=oH (Qk _ _ _ R);have Y:n≤n:=cf n;clear R C J he;go_enter func19,ntmps19;go_wp2_with fail;refine HC.out.mono ?_;rintro e w1 ⟨A1,c1,rfl,j,l⟩;have H1:=J2 j l;clear j;obtain⟨_,_,e1,o,_⟩:=l;cases e1;rw[List.length_replicate] at o;simp only[List.length_replicate];go_wp2_with fail;refine(Ra A1 n c1 w1 o).mono ?_;rintro e w2 ⟨rfl,rfl⟩;go_wp2_with fail;go_ret;exact⟨_,rfl,⟨_,_,_,rfl⟩,H1.1⟩
def PG:bT (Int×Int):=fun S w v a=>∃(g:Nat) (xs:List Int),v=.slice (some ⟨g,0,none⟩) a.1.toNat a.1.toNat∧S g∧al w g 2 (xs.map (Value.int .i64)).toArray∧xs.length=a.1.toNat∧∀x∈xs,aV x
theorem NE:bT.Good PG:=by
 constructor
 ·rintro S w C v x k ⟨g,xs,e,j,l,o⟩
  exact⟨g,xs,e,j,l.kept k j,o⟩
 rintro S T w v x k ⟨g,xs,e,j,l⟩;exact⟨g,xs,e,k _ j,l⟩
theorem Qi {N:Nat}{w:World}{av:Value}{l:List (Int×Int)}(h:dR 1 35 (eT PG) N w av l)(k:Nat)(a:Int×Int)(o:l[k]? =some a):∃g cap cs v,av=.slice (some ⟨g,0,none⟩) l.length cap∧N≤g∧al w g 35 cs∧cs[k]? =some v∧No N w v a.1.toNat:=by
 obtain⟨j,P,J,h2,R,Y,Z⟩:=h;obtain⟨cs,q1,v,rfl,hE⟩:=Z k a o;have a1:=(lS.1 o).1;rcases J.2 with ⟨rfl,h0⟩|⟨g,cap,cur,rfl,hb,hh,hc,hm,hs,ht⟩;·omega
 have C:=wN j R k [v] q1 0 v rfl;rw[←ht,rY (by omega)] at C;refine⟨g,cap,cur,v,rfl,hb,hh,by simpa using C,?_⟩;obtain⟨g2,xs,rfl,hP,hB,hn⟩:=hE;exact⟨g2,xs,rfl,(Y g2 hP).1,hB,hn⟩
theorem PP (n:Nat):aN n (fun _=>0)=((List.replicate n (0:Int)).map (Value.int .i64)).toArray:=by
 apply Array.ext_getElem?;intro j;by_cases h:j<n
 ·rw[bI h]
  simp[h]
 rw[jK (by rw[kU];omega),jK (by simp;omega)]
end Go.Proofs.YtncdbjponknakaaGreatDoor
