/- Part 25 of the proof (its last part says what is proved). No condition. -/
import Derived.Test.YtccbbkopmlnkpaaGreatDoorK23
namespace Go.Proofs.YtccbbkopmlnkpaaGreatDoor
set_option maxRecDepth 100000
set_option maxHeartbeats 8000000
open Go.RowKit Go.Proofs.Tryz
section
section
variable {α β:Type}
instance decSome (o:Option α) (P:α→Prop) [∀a,Decidable (P a)]:Decidable (∃s,o=some s∧P s):=
 match o with
 |none=>isFalse (by rintro⟨_,h,_⟩;cases h)
 |some a=>decidable_of_iff (P a) ⟨fun h=>⟨a,rfl,h⟩,by rintro⟨_,h,h'⟩;cases h;exact h'⟩
instance decAt (l:List α) (P:Nat→α→Prop) [∀i a,Decidable (P i a)]:Decidable (∀(i:Nat) x,l[i]? =some x→P i x):=
 decidable_of_iff (∀(i:Nat) (h:i<l.length),P i l[i]) ⟨fun h i x hx=>by obtain⟨hi,rfl⟩:=lS.1 hx;exact h i hi,fun h i hi=>h i _ (lG hi)⟩
instance decShape (o:Option (Int×Bool×Bool×Bool)) (P:Int→Bool→Bool→Bool→Prop) [∀a b c d,Decidable (P a b c d)]:Decidable (∃a b c d,o=some (a,b,c,d)∧P a b c d):=
 match o with
 |none=>isFalse (by rintro⟨_,_,_,_,h,_⟩;cases h)
 |some (a,b,c,d)=>decidable_of_iff (P a b c d) ⟨fun h=>⟨a,b,c,d,rfl,h⟩,by rintro⟨_,_,_,_,h,h'⟩;cases h;exact h'⟩
end
instance (x:aB):Decidable (dy x):=by unfold dy eS;infer_instance
instance (f:aR):Decidable (el f):=by unfold el;infer_instance
instance (a:Cm):Decidable (rQ a):=by unfold rQ;infer_instance
instance (q:cf):Decidable (dr q):=by unfold dr;infer_instance
def BJ:ByteArray:=bs [102,110,32,109,97,105,110,40,41,32,123,32,97,58,32,120,32,61,32,99,111,110,115,116,32,50,32,98,114,97,110,99,104,32,120,32,98,32,99,32,98,58,32,121,32,61,32,99,111,110,115,116,32,49,32,106,117,109,112,32,100,32,99,58,32,106,117,109,112,32,100,32,100,58,32,122,32,61,32,112,104,105,32,91,98,58,32,121,44,32,99,58,32,120,93,32,114,101,116,117,114,110,32,122,32,125]
def CP:ByteArray:=bs [102,110,32,109,97,105,110,40,41,32,123,32,97,58,32,120,32,61,32,99,111,110,115,116,32,50,32,98,114,97,110,99,104,32,120,32,98,32,99,32,98,58,32,121,32,61,32,99,111,110,115,116,32,49,32,106,117,109,112,32,100,32,99,58,32,106,117,109,112,32,100,32,100,58,32,114,101,116,117,114,110,32,121,32,125]
def Fy:ByteArray:=bs [102,110,32,109,97,105,110,40,41,32,123,32,97,58,32,106,117,109,112,32,98,32,98,58,32,106,117,109,112,32,98,32,125]
def kD:ByteArray:=bs [108,101,118,101,108,32,108,111,119,10,108,101,118,101,108,32,104,105,103,104,10,102,108,111,119,32,108,111,119,32,104,105,103,104,10,105,110,112,117,116,32,107,101,121,32,104,105,103,104,10,111,117,116,112,117,116,32,110,101,116,32,108,111,119,10,100,101,112,116,104,32,56]
def cU:aI:=⟨[(bs [108,111,119]),(bs [104,105,103,104])],[3#64,2#64],[((bs [107,101,121]),1)],[((bs [110,101,116]),0)],8⟩
def lr (s:ByteArray):cf:=(rl s).getD ⟨[],[]⟩
theorem wR:dr (lr BJ)∧dr (lr CP)∧dr (lr Fy):=of_decide_eq_true (by kernel_rfl)
instance decOpt {α:Type} (o:Option α) (P:α→Prop) [∀a,Decidable (P a)]:Decidable (∀g,o=some g→P g):=
 match o with
 |none=>isTrue (fun _ h=>by cases h)
 |some a=>decidable_of_iff (P a) ⟨fun h g hg=>by cases hg;exact h,fun h=>h a rfl⟩
instance decNext (l:List Nat):Decidable (∀(i:Nat),l[i+1]? =some 3→l[i]? =some 3):=
 decidable_of_iff (∀i,i<l.length→l[i+1]? =some 3→l[i]? =some 3) ⟨fun h i h1=>h i (by have:=(lS.1 h1).1;omega) h1,fun h i _=>h i⟩
instance decMem (a:ByteArray) (l:List ByteArray):Decidable (a∈l):=decidable_of_iff (l.any (fun x=>decide (x=a))=true) (by simp)
instance decNodup (l:List ByteArray):Decidable l.Nodup:=by unfold List.Nodup;infer_instance
instance (p:aI) (q:cf) (f:aR) (x:aB):Decidable (kM p q f x):=by unfold kM;infer_instance
instance (l:List Nat):Decidable (kv l):=by unfold kv;infer_instance
instance (p:aI) (q:cf) (f:aR):Decidable (lz p q f):=by unfold lz;infer_instance
instance (p:aI) (q:cf):Decidable (lA p q):=by unfold lA;infer_instance
theorem tD:lA cU (lr BJ)∧lA cU (lr CP)∧lA cU (lr Fy):=of_decide_eq_true (by kernel_rfl)
instance (up:List (BitVec 64)):Decidable (vY up):=by unfold vY eM;infer_instance
instance (p:aI):Decidable (dZ p):=by unfold dZ dG mt;infer_instance
theorem At:dZ cU:=of_decide_eq_true (by kernel_rfl)
instance (p:aI) (c:aU) (b:av) (n:Int) (x:bI):Decidable (ul p c b n x):=by
 unfold ul;refine @decShape _ _ ?_;intro a d r t
 infer_instance
instance (p:aI) (c:aU) (b:av):Decidable (ox p c b):=by unfold ox;infer_instance
instance (p:aI) (c:aU):Decidable (eT p c):=by unfold eT;infer_instance
def jX (s:ByteArray):aU:=iu cU (lr s)
theorem wy:eT cU (jX BJ)∧eT cU (jX CP)∧eT cU (jX Fy):=of_decide_eq_true (by kernel_rfl)
theorem ML:kV cU (jX BJ)=(0,0,0):=by rw[kW wy.1,nD (by kernel_rfl)];kernel_rfl
theorem MM:(kV cU (jX CP)).2.2=19:=by rw[kW wy.2.1,nD (by kernel_rfl)];kernel_rfl
theorem MN:(kV cU (jX Fy)).2=(15,17):=by rw[kW wy.2.2,nD (by kernel_rfl)];kernel_rfl
instance (n:Int):Decidable (aS n):=by unfold aS;infer_instance
instance (x:bI):Decidable (fw x):=by have:fw x↔aS x.dst∧aS x.ref∧aS x.No∧(∀a∈x.args,aS a)∧∀a∈x.Nn,aS a:=⟨fun h=>⟨h.1,h.2,h.3,h.4,h.5⟩,fun h=>⟨h.1,h.2.1,h.2.2.1,h.2.2.2.1,h.2.2.2.2⟩⟩;exact decidable_of_iff _ this.symm
def Kh (c:aU):Bool:=decide (aS c.main)&&c.Nl.all fun b=>b.Nm.flatten.all fun x=>decide (fw x)
theorem wM {c:aU}(h:Kh c=true):il c:=by unfold Kh at h;simp only[dX,eq,List.all_eq_true] at h;exact⟨h.1,h.2⟩
theorem Gp:il (jX BJ)∧il (jX CP)∧il (jX Fy):=⟨wM (by kernel_rfl),wM (by kernel_rfl),wM (by kernel_rfl)⟩
def Nb (c:aU):Bool:=decide (c.Nk.length≤1048576)&&decide (c.Nl.length≤1048576)&&c.Nl.all fun b=>decide (b.Nm.length≤1048576)&&b.Nm.all fun l=>decide (l.length≤1048576)&&l.all fun x=>decide (x.args.length≤1048576)&&decide (x.Nn.length≤1048576)
theorem GZ {c:aU}(h:Nb c=true):iH c:=by unfold Nb at h;simp only[dX,eq,List.all_eq_true] at h;exact⟨h.1.1,h.1.2,fun b j=>(h.2 b j).1,fun b j l o=>((h.2 b j).2 l o).1,fun b j l o x C=>by have:=((h.2 b j).2 l o).2 x C;exact⟨this.1,this.2⟩⟩
theorem MT:iH (jX BJ)∧iH (jX CP)∧iH (jX Fy):=⟨GZ (by kernel_rfl),GZ (by kernel_rfl),GZ (by kernel_rfl)⟩
theorem Lm:jU cU:=by
 constructor;·exact of_decide_eq_true (by kernel_rfl)
 ·exact of_decide_eq_true (by kernel_rfl)
 exact of_decide_eq_true (by kernel_rfl)
end
theorem qt {w:World}{g:Nat}{e:TypeId}{l:List Int}{B:Nat}(h:al w g e (aW l).toArray)(o:B≤g)(hw:∀x∈l,(Lit.int .i64 x).wf=true)(C:l.length≤1000):bu (fun g=>B≤g∧g<w.heap.size) w (.slice (some ⟨g,0,none⟩) l.length l.length) l:=
 Sl.of_blk h ⟨o,h.lt⟩ (bj _) (by unfold maxLen;omega) (by omega) fun i x j=>⟨.int .i64 x,by simp[aW,j],rfl,hw x (mG j)⟩
theorem BO (S:Nat→Prop)(bv:Value)(b:av)(w:World)(hb:fz S w bv b.Nm)(hG:jt b):
 Calls prog 15 #[.agg #[.int .i64 b.params,.int .i64 b.vars,bv]] w (Ku b w):=by
 obtain⟨iI,c9,d7,d8,d9⟩:=info_parts sE;have II:=J4 c9 d7 d8 d9;clear c9 d7 d8 d9;obtain⟨iR,c9,d7,d8,d9⟩:=info_parts Db;have IR:=J4 c9 d7 d8 d9;clear c9 d7 d8 d9;have h6:=cu.la hb;obtain⟨B1,d1,rfl,m5,m6,m7,_⟩:=hb;unfold maxLen at*;obtain⟨W0,e2⟩:=eQ (w.alloc (.cells #[.int .i64 b.params,.int .i64 b.vars,.slice B1 b.Nm.length d1] 35));have e7:aa All w W0:=by rw[e2];exact kR.alloc _
 have bB:al W0 w.heap.size 35 #[.int .i64 b.params,.int .i64 b.vars,.slice B1 b.Nm.length d1]:=by rw[e2];exact ac rfl
 obtain⟨b0,b1,b2⟩:=bB.c3;have j8:=e7.size;have j9:=hG.blk.2;have HG:=oH hG;have HW:=J4 e2 e7 bB h6;clear e2 e7 bB h6 hG;go_enter func15,ntmps15;go_upto_region 1 with fail;rw[←HW.1];go_wp2_with fail;go_loopg [4,12] b.Nm.length (fun g s4 s5 wr=>∃j:Nat,j≤b.Nm.length∧g=b.Nm.length-j∧s5=.int .i64 j∧aa All W0 wr∧cq 1 38 (io bu) W0.heap.size wr s4 ((aM b).take j));·exact⟨0,by omega,by omega,rfl,kR,by rw[List.take_zero];exact cq.nil⟩
 obtain⟨j,hj,rfl,rfl,c5,a7⟩:=hrel;have e3:=HW.2.1.trans c5;obtain⟨E,ep,rfl⟩:=a7.form;have b9:((aM b).take j).length=j:=by rw[kQ,cB];omega
 rw[b9] at a7⊢;have h7:=HW.2.2.1.kept c5 trivial;clear b0 b1 b2;obtain⟨b0,b1,b2⟩:=h7.c3;clear h7;have j6:=c5.size;by_cases j1:j<b.Nm.length;·(
 obtain⟨l,hl⟩:=eG j1;have e4:=mG hl;obtain⟨rb,ro,rv,rfl,j2,k0,e8⟩:=de (HW.2.2.2 wr e3) hl;obtain⟨q1,q2,q3⟩:=HG.out.some_ l e4;have e0:=(mI q1).2;have hrefs:=HG.out.ref l e4;have c1:=HG.out.No l e4;have h8:(aM b).take (j+1)=(aM b).take j++[iV (iM l)]:=by rw[dT,JK hl];rfl
 generalize iM l=x at*;obtain⟨LA,lc,rfl,l1,l2,l3,_⟩:=id e8;unfold maxLen at l2;obtain⟨m,hm⟩:∃m:Nat,l.length=m+1:=⟨l.length-1,by omega⟩;rw[show l.length-1=m by omega] at e0;obtain⟨xb,xo,k1,rfl,j3,h9,b8,xa,xf,rfl,j4,j5,i1⟩:=bh e8 e0;obtain⟨ua,uc,rfl,_⟩:=j4;obtain⟨va,vc,rfl,_⟩:=j5;have z0:=b8 0 _ rfl;rw[cJ] at z0;have z1:=b8 1 _ rfl;have z2:=b8 2 _ rfl;have z3:=b8 3 _ rfl;have z4:=b8 4 _ rfl;have z5:=b8 5 _ rfl;have z6:=b8 6 _ rfl;have z7:=b8 7 _ rfl;have z8:=b8 8 _ rfl;have tl:((l.length:Int)==0)=false:=by rw[bE];omega
 have tm:(l.length:Int)-1=(m:Int):=by omega
 have k2:m<l.length:=by omega
 obtain⟨R,e5⟩:=eQ (wr.alloc (.cells #[.int .u8 x.kind,.int .u8 x.op,.int .i64 x.dst,.int .i64 x.ref,.int .i64 x.No,.slice ua x.args.length uc,.slice va x.Nn.length vc,.int .i64 x.num,.int .i64 x.Np] 40));have e9:aa All wr R:=by rw[e5];exact kR.alloc _
 have b5:al R wr.heap.size 40 #[.int .u8 x.kind,.int .u8 x.op,.int .i64 x.dst,.int .i64 x.ref,.int .i64 x.No,.slice ua x.args.length uc,.slice va x.Nn.length vc,.int .i64 x.num,.int .i64 x.Np]:=by rw[e5];exact ac rfl
 have k3:=e9.size;have HX:=oH (show∀wn,aa All R wn→wn.cell? ⟨wr.heap.size,0,none⟩=some (.int .u8 x.kind)∧wn.cell? ⟨wr.heap.size,3,none⟩=some (.int .i64 x.ref)∧wn.cell? ⟨wr.heap.size,4,none⟩=some (.int .i64 x.No) from fun wn hk=>⟨(b5.kept hk trivial).cell 0,(b5.kept hk trivial).cell 3,(b5.kept hk trivial).cell 4⟩);have HA:=J6 c5 a7 e5 e9 h8 i1;obtain⟨_,i6⟩:=a7.own;have HO:=oH i6;clear c5 a7 e5 e9 b5 h8 hl e4 e8 e0 b8 i1 e3 j2 j3 h9 i6;go_upto_region 9 with fail;rw[←HA.2.2.1];clear z0 z1 z2 z3 z4 z5 z6 z7 z8;obtain⟨c0,c3,c4⟩:=HX.out R kR;by_cases e6:x.kind=13;·(
 have t12:=nK x.kind 12 (by omega);have t11:=nK x.kind 11 (by omega);have t13:=wK x.kind 13 (by omega);have c6:=oH (show iV x=[] by unfold iV;rw[ah (by omega),ah (by omega)]);clear hrefs c1 e6;obtain⟨X9,C⟩:∃X,X=R.alloc (.cells #[.slice none 0 0] 38):=⟨_,rfl⟩;have I:aa All R X9:=by rw[C];exact kR.alloc _
 have a8:al X9 R.heap.size 38 #[.slice none 0 0]:=by rw[C];exact ac rfl
 have J:X9.heap.size=R.heap.size+1:=by rw[C];simp
 have c7:=dY J;have c8:=dY J.symm;have Y:aa All wr X9:=HA.2.2.2.1.trans ((aa.refl All R).trans I);have o:=HA.2.1.keep (fg ae) Y fun _ _ _=>trivial;have b3:bu (fun g=>R.heap.size≤g∧g<R.heap.size) X9 (.slice none 0 0) (([]:List Int)):=ae.keep I.all (Sl.nil);have h0:=Y.size;have H9:=J5 C a8 o b3 Y;clear C I a8 J o b3 Y;go_wp2_with (
  at_builtin;go_loud (
  rw[←H9.1];refine bC (E:=io bu) _ (fg ae) rfl (.tmp 57) (.tmp 59) 54 rfl iR _ 24 underlying54 IR.1 IR.2.1 IR.2.2.1 IR.2.2.2 rfl (by decide) _ _ rfl H9.2.2.1 R.heap.size 0 1 rfl [.slice none 0 0] (([]:List Int)) rfl ?_ ?_ (by rw[b9];omega) (by omega) (by omega) (fun g=>R.heap.size≤g∧g<R.heap.size) ?_ ⟨_,rfl,H9.2.2.2.1⟩ ?_;·intro j u hu;rw[dU,H9.2.1.cell,List.getElem?_toArray];exact hu
  ·intro u hu
   rw[ce.1 hu];rfl
  ·intro g hg;have h1:R.heap.size≤g∧g<R.heap.size:=hg;exact⟨by omega,by omega,fun e=>by have:=(au HO.out e).2;omega⟩
  intro D2 h2 w9 o b4 b6;have HZ:=J3 o b4 b6;clear o b4 b6))
 go_roundg (b.Nm.length-(j+1));·refine⟨j+1,by omega,rfl,by go_num,(HA.1.trans H9.2.2.2.2).grown HZ.2.1 fun b hb=>.inr (HZ.2.2 b hb),?_⟩;rw[HA.2.2.2.2.1,c6.out];have h3:=HZ.1;rw[b9] at h3;exact h3
 omega)
 by_cases e1:x.kind=12;·(
 by_cases ea:x.No=x.ref;·(
 have t12:=yK x.kind 12 (by omega);have t11:=nK x.kind 11 (by omega);have t13:=mK x.kind 13 (by omega);have t5:(x.No !=x.ref)=false:=by rw[ru];exact ea
 have c6:=oH (show iV x=[x.ref] by unfold iV;rw[ah (fun h=>h.2 ea),am (.inl e1)]);clear hrefs c1 e6 e1 ea;obtain⟨X1,a6⟩:∃X,X=R.alloc (.cells #[.int .i64 x.ref] 3):=⟨_,rfl⟩;have a1:aa All R X1:=by rw[a6];exact kR.alloc _
 have c2:al X1 R.heap.size 3 (aW [x.ref]).toArray:=by rw[a6];exact ac rfl
 have i7:=a1.size;have b7:=J3 a6 a1 c2;clear a6 a1 c2;go_upto_region 15 with fail;rw[←b7.1];obtain⟨X9,C⟩:∃X,X=X1.alloc (.cells #[.slice (some ⟨R.heap.size,0,none⟩) 1 1] 38):=⟨_,rfl⟩;have I:aa All X1 X9:=by rw[C];exact kR.alloc _
 have a8:al X9 X1.heap.size 38 #[.slice (some ⟨R.heap.size,0,none⟩) 1 1]:=by rw[C];exact ac rfl
 have J:X9.heap.size=X1.heap.size+1:=by rw[C];simp
 have c7:=dY J;have c8:=dY J.symm;have Y:aa All wr X9:=HA.2.2.2.1.trans (b7.2.1.trans I);have o:=HA.2.1.keep (fg ae) Y fun _ _ _=>trivial;have b3:bu (fun g=>R.heap.size≤g∧g<X1.heap.size) X9 (.slice (some ⟨R.heap.size,0,none⟩) 1 1) ([x.ref]):=ae.keep I.all (qt (l:=[x.ref]) b7.2.2 (bj _) (fun y hy=>by rcases fV.1 hy with rfl|hy<;>first|exact mO HA.2.2.2.2.2.ref|(rw[ce.1 hy];exact mO HA.2.2.2.2.2.No)|cases hy) (by simp));have h0:=Y.size;have H9:=J5 C a8 o b3 Y;clear C I a8 J o b3 Y;go_wp2_with (
  at_builtin;go_loud (
  rw[←H9.1];refine bC (E:=io bu) _ (fg ae) rfl (.tmp 57) (.tmp 59) 54 rfl iR _ 24 underlying54 IR.1 IR.2.1 IR.2.2.1 IR.2.2.2 rfl (by decide) _ _ rfl H9.2.2.1 X1.heap.size 0 1 rfl [.slice (some ⟨R.heap.size,0,none⟩) 1 1] ([x.ref]) rfl ?_ ?_ (by rw[b9];omega) (by omega) (by omega) (fun g=>R.heap.size≤g∧g<X1.heap.size) ?_ ⟨_,rfl,H9.2.2.2.1⟩ ?_;·intro j u hu;rw[dU,H9.2.1.cell,List.getElem?_toArray];exact hu
  ·intro u hu
   rw[ce.1 hu];rfl
  ·intro g hg;have h1:R.heap.size≤g∧g<X1.heap.size:=hg;exact⟨by omega,by omega,fun e=>by have:=(au HO.out e).2;omega⟩
  intro D2 h2 w9 o b4 b6;have HZ:=J3 o b4 b6;clear o b4 b6))
 go_roundg (b.Nm.length-(j+1));·refine⟨j+1,by omega,rfl,by go_num,(HA.1.trans H9.2.2.2.2).grown HZ.2.1 fun b hb=>.inr (HZ.2.2 b hb),?_⟩;rw[HA.2.2.2.2.1,c6.out];have h3:=HZ.1;rw[b9] at h3;exact h3
 omega)
 have t12:=yK x.kind 12 (by omega);have t11:=nK x.kind 11 (by omega);have t13:=mK x.kind 13 (by omega);have t5:(x.No !=x.ref)=true:=by rw[bne_iff_ne];exact ea
 have c6:=oH (show iV x=[x.ref,x.No] by unfold iV;rw[am ⟨e1,ea⟩]);clear hrefs c1 e6 e1 ea;obtain⟨X1,a6⟩:∃X,X=R.alloc (.cells #[.int .i64 x.ref,.int .i64 x.No] 3):=⟨_,rfl⟩;have a1:aa All R X1:=by rw[a6];exact kR.alloc _
 have c2:al X1 R.heap.size 3 (aW [x.ref,x.No]).toArray:=by rw[a6];exact ac rfl
 have i7:=a1.size;have b7:=J3 a6 a1 c2;clear a6 a1 c2;go_upto_region 15 with fail;rw[←b7.1];obtain⟨X9,C⟩:∃X,X=X1.alloc (.cells #[.slice (some ⟨R.heap.size,0,none⟩) 2 2] 38):=⟨_,rfl⟩;have I:aa All X1 X9:=by rw[C];exact kR.alloc _
 have a8:al X9 X1.heap.size 38 #[.slice (some ⟨R.heap.size,0,none⟩) 2 2]:=by rw[C];exact ac rfl
 have J:X9.heap.size=X1.heap.size+1:=by rw[C];simp
 have c7:=dY J;have c8:=dY J.symm;have Y:aa All wr X9:=HA.2.2.2.1.trans (b7.2.1.trans I);have o:=HA.2.1.keep (fg ae) Y fun _ _ _=>trivial;have b3:bu (fun g=>R.heap.size≤g∧g<X1.heap.size) X9 (.slice (some ⟨R.heap.size,0,none⟩) 2 2) ([x.ref,x.No]):=ae.keep I.all (qt (l:=[x.ref,x.No]) b7.2.2 (bj _) (fun y hy=>by rcases fV.1 hy with rfl|hy<;>first|exact mO HA.2.2.2.2.2.ref|(rw[ce.1 hy];exact mO HA.2.2.2.2.2.No)|cases hy) (by simp));have h0:=Y.size;have H9:=J5 C a8 o b3 Y;clear C I a8 J o b3 Y;go_wp2_with (
  at_builtin;go_loud (
  rw[←H9.1];refine bC (E:=io bu) _ (fg ae) rfl (.tmp 57) (.tmp 59) 54 rfl iR _ 24 underlying54 IR.1 IR.2.1 IR.2.2.1 IR.2.2.2 rfl (by decide) _ _ rfl H9.2.2.1 X1.heap.size 0 1 rfl [.slice (some ⟨R.heap.size,0,none⟩) 2 2] ([x.ref,x.No]) rfl ?_ ?_ (by rw[b9];omega) (by omega) (by omega) (fun g=>R.heap.size≤g∧g<X1.heap.size) ?_ ⟨_,rfl,H9.2.2.2.1⟩ ?_;·intro j u hu;rw[dU,H9.2.1.cell,List.getElem?_toArray];exact hu
  ·intro u hu
   rw[ce.1 hu];rfl
  ·intro g hg;have h1:R.heap.size≤g∧g<X1.heap.size:=hg;exact⟨by omega,by omega,fun e=>by have:=(au HO.out e).2;omega⟩
  intro D2 h2 w9 o b4 b6;have HZ:=J3 o b4 b6;clear o b4 b6))
 go_roundg (b.Nm.length-(j+1));·refine⟨j+1,by omega,rfl,by go_num,(HA.1.trans H9.2.2.2.2).grown HZ.2.1 fun b hb=>.inr (HZ.2.2 b hb),?_⟩;rw[HA.2.2.2.2.1,c6.out];have h3:=HZ.1;rw[b9] at h3;exact h3
 omega)
 have t12:=nK x.kind 12 (by omega);have t11:=yK x.kind 11 (by omega);have t13:=mK x.kind 13 (by omega);have c6:=oH (show iV x=[x.ref] by unfold iV;rw[ah (by omega),am (by omega)]);clear hrefs c1 e6 e1;obtain⟨X1,a6⟩:∃X,X=R.alloc (.cells #[.int .i64 x.ref] 3):=⟨_,rfl⟩;have a1:aa All R X1:=by rw[a6];exact kR.alloc _
 have c2:al X1 R.heap.size 3 (aW [x.ref]).toArray:=by rw[a6];exact ac rfl
 have i7:=a1.size;have b7:=J3 a6 a1 c2;clear a6 a1 c2;go_upto_region 15 with fail;rw[←b7.1];obtain⟨X9,C⟩:∃X,X=X1.alloc (.cells #[.slice (some ⟨R.heap.size,0,none⟩) 1 1] 38):=⟨_,rfl⟩;have I:aa All X1 X9:=by rw[C];exact kR.alloc _
 have a8:al X9 X1.heap.size 38 #[.slice (some ⟨R.heap.size,0,none⟩) 1 1]:=by rw[C];exact ac rfl
 have J:X9.heap.size=X1.heap.size+1:=by rw[C];simp
 have c7:=dY J;have c8:=dY J.symm;have Y:aa All wr X9:=HA.2.2.2.1.trans (b7.2.1.trans I);have o:=HA.2.1.keep (fg ae) Y fun _ _ _=>trivial;have b3:bu (fun g=>R.heap.size≤g∧g<X1.heap.size) X9 (.slice (some ⟨R.heap.size,0,none⟩) 1 1) ([x.ref]):=ae.keep I.all (qt (l:=[x.ref]) b7.2.2 (bj _) (fun y hy=>by rcases fV.1 hy with rfl|hy<;>first|exact mO HA.2.2.2.2.2.ref|(rw[ce.1 hy];exact mO HA.2.2.2.2.2.No)|cases hy) (by simp));have h0:=Y.size;have H9:=J5 C a8 o b3 Y;clear C I a8 J o b3 Y;go_wp2_with (
  at_builtin;go_loud (
  rw[←H9.1];refine bC (E:=io bu) _ (fg ae) rfl (.tmp 57) (.tmp 59) 54 rfl iR _ 24 underlying54 IR.1 IR.2.1 IR.2.2.1 IR.2.2.2 rfl (by decide) _ _ rfl H9.2.2.1 X1.heap.size 0 1 rfl [.slice (some ⟨R.heap.size,0,none⟩) 1 1] ([x.ref]) rfl ?_ ?_ (by rw[b9];omega) (by omega) (by omega) (fun g=>R.heap.size≤g∧g<X1.heap.size) ?_ ⟨_,rfl,H9.2.2.2.1⟩ ?_;·intro j u hu;rw[dU,H9.2.1.cell,List.getElem?_toArray];exact hu
  ·intro u hu
   rw[ce.1 hu];rfl
  ·intro g hg;have h1:R.heap.size≤g∧g<X1.heap.size:=hg;exact⟨by omega,by omega,fun e=>by have:=(au HO.out e).2;omega⟩
  intro D2 h2 w9 o b4 b6;have HZ:=J3 o b4 b6;clear o b4 b6))
 go_roundg (b.Nm.length-(j+1));·refine⟨j+1,by omega,rfl,by go_num,(HA.1.trans H9.2.2.2.2).grown HZ.2.1 fun b hb=>.inr (HZ.2.2 b hb),?_⟩;rw[HA.2.2.2.2.1,c6.out];have h3:=HZ.1;rw[b9] at h3;exact h3
 omega)
 obtain rfl:j=b.Nm.length:=by omega
 rw[oz (by rw[cB];omega)] at a7;have h4:=wY (a7.read (bw:=24) (fg ae) (by rw[cB];omega));have HQ:=J3 c5 e3 (aE.wide (fun g (hg:W0.heap.size≤g∧g<wr.heap.size)=>show w.heap.size≤g∧g<wr.heap.size by omega) h4);have HC:=oH (ib _ _ (aM b) wr h4);clear c5 e3 a7 h4;skip;go_wp2_with fail;refine HC.out.mono ?_;rintro e w2 ⟨rfl,h5⟩;rw[be (ix HG.out)];have j0:=oH h5;have j7:=h5.size;clear h5;go_wp2_with fail;go_ret2;exact⟨_,rfl,aE.wide (fun g (hg:w.heap.size≤g∧g<wr.heap.size)=>show w.heap.size≤g∧g<w2.heap.size by omega) (aE.keep j0.out.all HQ.2.2),HQ.2.1.trans j0.out⟩
section
open Classical in
theorem pO {P Q:Nat→Prop}{n:Nat}(h:∀k,k<n→(P k↔Q k)):cz P n=cz Q n:=by
 rcases ji P n with ⟨e,g⟩|⟨k,e,o,I,hm⟩;·rw[e,gh fun k o C=>g k o ((h k o).2 C)]
 rw[e,qu o (fun j J C=>hm j J ((h j (by omega)).2 C)) ((h k o).1 I)]
noncomputable def qq (l:List Bool):Int:=cz (fun k=>l[k]? =some false) l.length
theorem Jb (l:List Bool): -1≤qq l∧qq l<l.length:=by rcases ji (fun k=>l[k]? =some false) l.length with ⟨e,_⟩|⟨k,e,j,_⟩<;>unfold qq<;>rw[e]<;>omega
theorem zV (S:Nat→Prop)(va:Value)(o:List Bool)(w:World)(ha:qO S w va o):
 Calls prog 48 #[va,.bool false] w fun e w'=>e=.returned (.int .i64 (qq o))∧w'=w:=by
 obtain⟨a,cap,rfl,h1,h2,_,h⟩:=ha;unfold maxLen at h2;have hl:o.length≤9223372036854775807:=by omega
 have H:=oH h;clear h;go_enter func48,ntmps48;go_wp2_with fail;go_loopg [5,8] o.length (fun g s5 s8 wr=>∃k:Nat,k≤o.length∧g=o.length-k∧s8=.int .i64 k∧wr=w∧∀j,j<k→o[j]?≠some false);·exact⟨0,by omega,by omega,rfl,rfl,fun j hj=>by omega⟩
 obtain⟨k,hk,rfl,rfl,hw,J⟩:=hrel;have R:=hw.symm;subst R;have C:=oH J;clear J;by_cases I:k<o.length;·(
 obtain⟨b,off,c,rfl,hs,hc,Y⟩:=H.out k o[k] (lG I);have hg:o[k]? =some o[k]:=lG I;have Hg:=oH hg;clear hg;generalize o[k]=y at*;obtain rfl:c=.bool y:=Y;cases y with
 |false=>have HV:=oH (qu I C.out Hg.out);go_wp2_with fail;go_ret;exact⟨by unfold qq;rw[HV.out];rfl,rfl⟩
 |true=>
  go_wp2_with fail;go_roundg (o.length-(k+1))
  ·refine⟨k+1,by omega,rfl,by go_num,rfl,fun j hj=>?_⟩;by_cases e:j=k;·subst e;rw[Hg.out];simp
   exact C.out j (by omega)
  omega)
 obtain rfl:k=o.length:=by omega
 have HV:=oH (gh C.out);go_wp2_with fail;go_ret;exact⟨by unfold qq;rw[HV.out];rfl,rfl⟩
theorem uV (S:Nat→Prop)(C:Value)(o:List Bool)(w:World)(I:qO S w C o):
 Calls prog 26 #[C] w fun e R=>e=.returned (.tuple #[.int .i64 (max (qq o) 0),.bool (decide (0≤qq o))])∧R=w:=by
 have J:=oH (zV S C o w I);have Y:=Jb o;obtain⟨a,cap,rfl,h1,h2,_,h⟩:=I;unfold maxLen at h2;clear h;generalize qq o=x at*;by_cases hx:0≤x
 ·have t1:decide (x<0)=false:=by simp;omega
  have t2:decide (x≥0)=true:=by simp;omega
  have t3:decide (0≤x)=true:=by simp;omega
  have t4:max x 0=x:=by omega
  rw[t3,t4];clear t3 t4;go_enter func26,ntmps26;go_wp2_with fail;refine J.out.mono ?_;rintro e w2 ⟨rfl,hw⟩;have j:=hw.symm;subst j;go_wp2_with fail;go_ret2;exact⟨rfl,rfl⟩
 obtain rfl:x= -1:=by omega
 go_enter func26,ntmps26;go_wp2_with fail;refine J.out.mono ?_;rintro e w2 ⟨rfl,hw⟩;have j:=hw.symm;subst j;go_wp2_with fail;go_ret2;exact⟨rfl,rfl⟩
theorem zU {ll:List (List Int)}:qq (gZ ll 0)=cz (kJ ll) ll.length:=by
 have j:(gZ ll 0).length=ll.length:=by simp[gZ]
 unfold qq;rw[j];refine pO fun k o=>?_;have:(gZ ll 0)[k]? =some (eZ ll 0 k):=by simp[gZ,o]
 rw[this];unfold kJ;by_cases C:bm ll 0 k;·simp[eZ,C]
 simp[eZ,C,o]
def qh (x:Int)(w:World):Ending→World→Prop:=fun e w'=>e=.returned (.tuple #[.int .i64 (max x 0),.bool (decide (0≤x))])∧aa All w w'
theorem sQ (S:Nat→Prop)(v:Value)(ll:List (List Int))(w:World)(R:Rows S w v ll)(J:bV ll):
 Calls prog 16 #[v] w (qh (cz (kJ ll) ll.length) w):=by
 have j:=ib S v ll w R;rw[be J] at j;have o:=fun Y (hk:aa All w Y)=>yQ S v ll 0 Y (aE.keep hk.all R) J J.1;obtain⟨a,cap,rfl,h1,h2,a1,h⟩:=R;have hl:ll.length≤256:=J.2.1;have HR:=J2 j o;clear h h1 h2 a1 j o;go_enter func16,ntmps16;go_wp2_with fail;refine HR.1.mono ?_;rintro e Y ⟨rfl,C⟩;have HK:=oH C;clear C;go_wp2_with fail;refine(HR.2 _ HK.out).mono ?_;rintro e w2 ⟨u,rfl,I,hb⟩;have HF:=oH (uV _ u _ w2 hb);have HB:=oH (HK.out.trans I);clear I hb;go_wp2_with fail;refine HF.out.mono ?_;rintro e w3 ⟨rfl,hw⟩;have a6:=hw.symm;subst a6;rw[zU];go_wp2_with fail;go_ret2;exact⟨rfl,HB.out⟩
end
def ie (E:Nat→Nat→Prop)(i:Nat)(s:List Nat):Prop:=∀(k:Nat) x,s[k]? =some x→(∃m y,k<m∧s[m]? =some y∧E y x)∨E i x
theorem GG (E:Nat→Nat→Prop)(i:Nat):ie E i []:=fun k x h=>by simp at h
theorem GF {E:Nat→Nat→Prop}{i c:Nat}{s I:List Nat}(h:ie E i s)(R:ie E c I)(he:E i c):ie E i (s++(I++[c])):=by
 intro k x j;by_cases Y:k<s.length
 ·rw[lC Y] at j;rcases h k x j with ⟨m,y,hm,J,o⟩|o
  ·have C:=(lS.1 J).1
   exact .inl ⟨m,y,hm,by rw[lC C];exact J,o⟩
  exact .inr o
 rw[jQ (by omega)] at j;by_cases h2:k-s.length<I.length
 ·rw[lC h2] at j;rcases R _ x j with ⟨m,y,hm,J,o⟩|o
  ·have C:=(lS.1 J).1
   refine .inl ⟨s.length+m,y,by omega,?_,o⟩;rw[jQ (by omega),Nat.add_sub_cancel_left,lC C];exact J
  refine .inl ⟨s.length+I.length,c,by omega,?_,o⟩;rw[jQ (by omega),Nat.add_sub_cancel_left,jQ (bj _),Nat.sub_self];rfl
 rw[jQ (by omega)] at j;have hz:k-s.length-I.length=0:=by have:=(lS.1 j).1;simp at this;omega
 rw[hz] at j;cases j;exact .inr he
theorem Dr {l:List Nat}(h:l.Nodup){i j:Nat}{x:Nat}(hi:l[i]? =some x)(Y:l[j]? =some x):i=j:=by
 obtain⟨o,C⟩:=lS.1 hi;obtain⟨I,J⟩:=lS.1 Y;have R:=List.pairwise_iff_getElem.1 (List.nodup_iff_pairwise_ne.1 h);rcases Nat.lt_trichotomy i j with h|h|h;·exact absurd (by rw[C,J]) (R i j o I h)
 ·exact h
 exact absurd (by rw[C,J]) (R j i I o h)
theorem KO {l:List Nat}(h:l.Nodup){i x:Nat}(hi:l[i]? =some x):l.idxOf x=i:=by
 have o:x∈l:=mG hi;have j:l.idxOf x<l.length:=List.idxOf_lt_length_iff.2 o;have:l[l.idxOf x]? =some x:=by rw[lG j,List.getElem_idxOf]
 exact Dr h this hi
theorem Di {l:List Nat}{n:Nat}(h:l.Nodup)(hm:∀x,x∈l↔x<n):l.length=n:=by
 have:l.Perm (List.range n):=(List.perm_ext_iff_of_nodup h List.nodup_range).2 fun x=>by rw[hm,dW]
 simpa using this.length_eq
theorem Lk {E:Nat→Nat→Prop}{n:Nat}{s:List Nat}(hE:∀a b,E a b→a<n∧b<n)(h:ie E 0 s)(hn:(s++[0]).Nodup)(hm:∀x,x∈s++[0]↔x<n):
 zt E n (fun x=>(s++[0]).reverse.idxOf x)∧(s++[0]).reverse.length=n∧(s++[0]).reverse[0]? =some 0∧∀(m:Nat) x,(s++[0]).reverse[m]? =some x→(s++[0]).reverse.idxOf x=m:=by
 have hr:(s++[0]).reverse.Nodup:=by rw[List.nodup_iff_pairwise_ne,List.pairwise_reverse];exact(List.nodup_iff_pairwise_ne.1 hn).imp fun h=>h.symm
 have J:=Di hn hm;have o:∀(m:Nat) x,(s++[0]).reverse[m]? =some x→(s++[0]).reverse.idxOf x=m:=fun m x h=>KO hr h;have h0:(s++[0]).reverse[0]? =some 0:=by simp
 have R:∀x,x<n→∃m,(s++[0]).reverse[m]? =some x:=fun x hx=>fB.1 (List.mem_reverse.2 ((hm x).2 hx));have Y:(s++[0]).reverse.length=n:=by rw[List.length_reverse];exact J
 refine⟨⟨?_,o 0 0 h0,fun a b ha hb e=>?_,fun a ha=>?_,hE,fun k hk a1=>?_⟩,Y,h0,o⟩;·rw[←J];simp
 ·obtain⟨i,hi⟩:=R a ha;obtain⟨j,I⟩:=R b hb;simp only[o i a hi,o j b I] at e;subst e;rw[hi] at I;exact mB I
 ·rw[←Y]
  exact List.idxOf_lt_length_iff.2 (List.mem_reverse.2 ((hm a).2 ha))
 have a6:k∈s:=by
  have:=(hm k).2 hk;rcases dV.1 this with h|h;·exact h
  exact absurd (ce.1 h) a1
 have C:∀j y,s[j]? =some y→(s++[0]).reverse.idxOf y=s.length-j:=by(
 intro j y hy;have I:=(lS.1 hy).1;refine o _ y ?_;rw[List.getElem?_reverse (by simp;omega)];have e:(s++[0]).length-1-(s.length-j)=j:=by simp;omega
 rw[e,lC I];exact hy)
 obtain⟨j,I⟩:=fB.1 a6;have a7:=(lS.1 I).1;rcases h j k I with ⟨m,y,a8,hy,he⟩|he
 ·refine⟨y,he,?_⟩
  have b0:=(lS.1 hy).1;simp only[C j k I,C m y hy];omega
 refine⟨0,he,?_⟩;simp only[C j k I,o 0 0 h0];omega
def kL (s:Nat→Int)(l:List Nat)(v:Int):Prop:=
 (v= -1∧∀p∈l,¬me s p)∨∃c:Nat,v=c∧(∃p∈l,me s p)∧∀x,gu s c x↔∀p∈l,me s p→gu s p x
theorem Dq (s:Nat→Int):kL s [] (-1):=.inl ⟨rfl,fun p j=>by cases j⟩
theorem Aj {s:Nat→Int}{l:List Nat}{v:Int}{p:Nat}(h:kL s l v)(C:¬me s p):kL s (l++[p]) v:=by
 rcases h with ⟨rfl,h⟩|⟨c,rfl,⟨q,j,o⟩,h⟩
 ·refine .inl ⟨rfl,fun q j=>?_⟩
  rcases dV.1 j with j|j;·exact h q j
  rw[ce.1 j];exact C
 refine .inr ⟨c,rfl,⟨q,dV.2 (.inl j),o⟩,fun x=>(h x).trans ⟨fun g q j o=>?_,fun g q j=>g q (dV.2 (.inl j))⟩⟩;rcases dV.1 j with j|j;·exact g q j o
 rw[ce.1 j] at o;exact absurd o C
theorem ri {s:Nat→Int}{l:List Nat}{v:Int}{p:Nat}(h:kL s l v)(I:v<0)(C:me s p):kL s (l++[p]) p:=by
 rcases h with ⟨rfl,h⟩|⟨c,rfl,_⟩
 ·refine .inr ⟨p,rfl,⟨p,dV.2 (.inr (ce.2 rfl)),C⟩,fun x=>⟨fun g q j o=>?_,fun g=>g p (dV.2 (.inr (ce.2 rfl))) C⟩⟩
  rcases dV.1 j with j|j;·exact absurd o (h q j)
  rw[ce.1 j];exact g
 omega
theorem sU {s:Nat→Int}{l:List Nat}{c m:Nat}{p:Nat}(h:kL s l c)(C:me s p)(hm:∀x,gu s m x↔gu s c x∧gu s p x):kL s (l++[p]) m:=by
 rcases h with ⟨h,_⟩|⟨I,e,_,h⟩;·omega
 have e:=Int.ofNat.inj e;subst e;refine .inr ⟨m,rfl,⟨p,dV.2 (.inr (ce.2 rfl)),C⟩,fun x=>(hm x).trans ⟨fun⟨g1,g2⟩ q j o=>?_,fun g=>⟨(h x).2 fun q j o=>g q (dV.2 (.inl j)) o,g p (dV.2 (.inr (ce.2 rfl))) C⟩⟩⟩;rcases dV.1 j with j|j;·exact(h x).1 g1 q j o
 rw[ce.1 j];exact g2
theorem Do {E:Nat→Nat→Prop}{s:Nat→Int}{l:List Nat}{v:Int}{k:Nat}(h:kL s l v)(o:∀p,p∈l↔E p k)(C:∃p,E p k∧me s p):Il E s k v:=by
 rcases h with ⟨_,h⟩|⟨c,rfl,_,h⟩
 ·obtain⟨p,he,j⟩:=C
  exact absurd j (h p ((o p).2 he))
 exact⟨c,rfl,fun x=>(h x).trans ⟨fun g p j=>g p ((o p).2 j),fun g p j=>g p ((o p).1 j)⟩⟩
theorem Ai {n:Nat}{pl:Nat→Nat}{s:Nat→Int}{l:List Nat}{c:Nat}(G:eU n pl s)(o:∀p∈l,p<n)(h:kL s l c):c<n∧me s c:=by
 rcases h with ⟨h,_⟩|⟨I,e,⟨p,j,C⟩,h⟩;·omega
 have e:=Int.ofNat.inj e;subst e;have:=(h c).1 (.refl _) p j C;exact⟨(oB G (o p j) this).1,BH G (o p j) C this⟩
theorem Dp {s:Nat→Int}{l:List Nat}{v:Int}(h:kL s l v):v= -1∨∃c:Nat,v=c:=by
 rcases h with ⟨h,_⟩|⟨c,h,_⟩;·exact .inl h
 exact .inr ⟨c,h⟩
def jC (t:Nat→Int):Nat→Nat→List Nat
 |0,j=>[j]
 |f+1,j=>j::if t j<0 then [] else jC t f (t j).toNat
theorem uI (t:Nat→Int):∀(f j:Nat),(jC t f j).length≤f+1
 |0,_=>by simp[jC]
 |f+1,j=>by rw[jC];have:=uI t f (t j).toNat;split<;>simp<;>omega
theorem uJ {n:Nat}{pl:Nat→Nat}{t:Nat→Int}(G:eU n pl t)(x:Nat):∀(f j:Nat),j<n→pl j≤f→(x∈jC t f j↔gu t j x):=by
 intro f;induction f with
 |zero=>
  intro j o I;have Y:t j<0:=by refine Classical.byContradiction fun h=>?_;obtain⟨p,_,_,C,_⟩:=G.low j o (by omega);omega
  rw[jC,ce];constructor;·rintro rfl;exact .refl _
  intro h;cases h with
  |refl=>rfl
  |up e _=>omega
 |succ f J=>
  intro j o I;rw[jC,fV];by_cases h:t j<0;·(
 rw[am h];constructor
 ·rintro(rfl|h)
  ·exact .refl _
  cases h
 intro h';cases h' with
 |refl=>exact .inl rfl
 |up e _=>omega)
  obtain⟨p,e,R,C,_⟩:=G.low j o (by omega);rw[ah h,e,fD,J p R (by omega)];constructor
  ·rintro(rfl|h);·exact .refl _
   exact .up e h
  intro h';rcases oC G o e h' with h|h;·exact .inl h
  exact .inr h
end Go.Proofs.YtccbbkopmlnkpaaGreatDoor
