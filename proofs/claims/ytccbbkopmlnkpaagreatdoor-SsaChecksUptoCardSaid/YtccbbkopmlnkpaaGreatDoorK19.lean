/- Part 20 of the proof (its last part says what is proved). No condition. -/
import Derived.Sort.OwnSortedInts
import Derived.Test.YtccbbkopmlnkpaaGreatDoorK16
import Derived.Test.YtccbbkopmlnkpaaGreatDoorK18
namespace Go.Proofs.YtccbbkopmlnkpaaGreatDoor
set_option maxRecDepth 100000
set_option maxHeartbeats 8000000
open Go.RowKit Go.Proofs.Tryz
theorem Xi:(prog.info? 185).map (fun i=>(i.zero,i.size,i.bytes))=some (some (.agg #[.int .u8 0,.int .u8 0,.string ⟨#[]⟩,.string ⟨#[]⟩,.string ⟨#[]⟩,.slice none 0 0,.slice none 0 0,.int .i64 0,.int .i64 0]),9,120):=by kernel_rfl
theorem VY {p:cr}{f k k':Nat}{l c:List cX}(h:UF p (f+1) k l=some (c,k')):
 ((p.txt k=XA∨Tp p k=true)∧c=l∧k'=k)∨(¬p.txt k=XA∧Tp p k=false∧∃x j,TV p k=some (x,j)∧UF p f j (l++[x])=some (c,k')):=by
 rw[UF] at h;split at h;·rename_i o;cases h;exact .inl ⟨o,rfl,rfl⟩
 rename_i o;right;refine⟨fun e=>o (.inl e),by cases e:Tp p k with|false=>rfl|true=>exact absurd (.inr e) o,?_⟩;cases hi:TV p k with
 |none=>rw[hi] at h;cases h
 |some y=>rw[hi] at h;exact⟨y.1,y.2,rfl,h⟩
theorem VD {p:cr}{k k':Nat}{b:eS}(h:TK p k=some (b,k')):
 p.is k 1=true∧p.txt (k+1)=XW∧∃c,UF p (p.l.length+1) (k+1+1) []=some (c,k')∧b=⟨p.txt k,c,p.pos k⟩:=by
 unfold TK Ty TR at h;by_cases j:p.is k 1=true
 ·by_cases o:p.txt (k+1)=XW
  ·simp only[j,o,if_true,Option.bind_eq_bind,Option.bind_some] at h;cases C:UF p (p.l.length+1) (k+1+1) [] with
   |none=>rw[C] at h;cases h
   |some y=>rw[C] at h;cases h;exact⟨j,o,_,rfl,rfl⟩
  simp[j,o] at h
 simp[j] at h
theorem gz.moved {w j:World}{pb:Nat}{p:cr}{A:Option Addr}{C k m:Nat}(h:gz w)(I:Uo w pb p A C k m)(o:aa (fun i=>i≠pb∧i<w.heap.size) w j):gz j:=by
 obtain⟨J,R⟩:=I.box.c2;refine⟨fun i hi=>o.cell (p:=⟨4,i,none⟩) ⟨fun e=>?_,jy _ _ (h.1 i hi)⟩ (h.1 i hi),fun i hi=>o.cell (p:=⟨3,i,none⟩) ⟨fun e=>?_,jy _ _ (h.2 i hi)⟩ (h.2 i hi)⟩
 ·have:=h.1 0 (by decide)
  rw[show 4=pb from e,J] at this;cases this
 have:=h.2 1 (by decide);rw[show 3=pb from e,R] at this;cases this
theorem Xj {pb:Nat}{p:cr}{A:Option Addr}{C k' I:Nat}{x:cX}{W w j:World}{e:Ending}(h:Vn pb p A C k' I x w e j)(hw:uB x)(Y:W.heap.size≤w.heap.size):
 ∃u,e=.returned u∧(∃a f,u=.agg (wg x a f))∧aa (fun i=>i≠pb) w j∧Uo j pb p A C k' I∧Tq zH W 9 x u j:=by
 obtain⟨hm,a,f,rfl,J,R⟩:=h;refine⟨_,rfl,⟨a,f,rfl⟩,hm.1,hm.2,_,rfl,rfl,?_,a,f,rfl,ax.wide (fun b o=>⟨by omega,o.2⟩) J,ax.wide (fun b o=>⟨by omega,o.2⟩) R,hw⟩;obtain⟨a1,a2,rfl,_⟩:=J;obtain⟨f1,f2,rfl,_⟩:=R;intro u hu;simp at hu;rcases hu with rfl|rfl|rfl|rfl|rfl|rfl|rfl|rfl|rfl<;>rfl
def Wo (pb:Nat)(p:cr)(A:Option Addr)(C k':Nat)(b:eS)(w:World)(e:Ending)(j:World):Prop:=
 ∃y o,e=.returned y∧o≤k'∧aa (fun i=>i≠pb) w j∧Uo j pb p A C k' o∧Tq qh w 3 b y j
structure XC (w:World)(rb cb pb:Nat)(p:cr)(A:Option Addr)(C k0 k m:Nat)(l:List cX)(W:World):Prop where
 kept:aa (Wm pb w.heap.size) w W
 par:PB W w.heap.size pb p A C k m
 res:al W rb 171 #[.string ⟨#[]⟩,.slice none 0 0,.int .i64 0]
 box:∃A1 C1,al W cb 171 #[.string (p.txt k0),.slice A1 l.length C1,.int .i64 (p.pos k0)]∧dR 9 185 zH (cb+1) W (.slice A1 l.length C1) l
 low:w.heap.size≤rb∧rb<cb∧cb<W.heap.size
 few:m≤k∧l.length≤m
theorem XC.moved {w W R:World}{o I pb:Nat}{p:cr}{A:Option Addr}{C Y k k' m j:Nat}{l:List cX}(h:XC w o I pb p A C Y k m l W)(hm:wi pb p A C k' j W R)(hf:j≤k'∧l.length≤j):XC w o I pb p A C Y k' j l R:=by have hl:=h.par.low;obtain⟨A1,C1,J,hr⟩:=h.box;have:=h.low;exact⟨h.kept.trans (hm.1.mono fun b J=>J.1),h.par.moved hm,h.res.kept hm.1 (by show o≠pb;omega),⟨A1,C1,J.kept hm.1 (by show I≠pb;omega),hr.keep nM hm.1 fun b h1 h2=>by show b≠pb;omega⟩,⟨this.1,this.2.1,by have:=hm.1.size;omega⟩,hf⟩
theorem XC.all {w W j:World}{o I pb:Nat}{p:cr}{A:Option Addr}{C J k m:Nat}{l:List cX}(h:XC w o I pb p A C J k m l W)(R:aa All W j):XC w o I pb p A C J k m l j:=
 h.moved ⟨R.all,h.par.pat.keep R⟩ h.few
theorem Xk {p:cr}{k k':Nat}{x:cX}(h:TV p k=some (x,k')):k<p.l.length:=by
 rcases TW h with ⟨h,_,_⟩|⟨_,⟨h,_⟩|⟨h,_⟩|⟨h,_⟩⟩;·exact Xm h
 all_goals exact TM (by rw[h];decide)
theorem Wy (pb o cb:Nat)(p:cr)(hp:p.Ok)(A:Option Addr)(C j k m k1 m1:Nat)(code:List cX)(w W:World)(J:Option Addr)(R:Nat)(a:Act)(ht:a.tmps[2]? =some (.pointer (some ⟨o,0,none⟩)))(hd:a.defers=[])(_:Uo w pb p A C k1 m1)(h4:p.l.length≤4096)
 (I:XC w o cb pb p A C j k m code W) (hr:dR 9 185 zH (cb+1) W (.slice J code.length R) code):
 bodyPost prog Tryz.f128 (Wo pb p A C k ⟨p.txt j,code,p.pos j⟩ w) .ret a (((W.setCell ⟨o,0,none⟩ (.string (p.txt j))).setCell ⟨o,1,none⟩ (.slice J code.length R)).setCell ⟨o,2,none⟩ (.int .i64 (p.pos j))):=by
 have bF:=((I.res.set 0 (.string (p.txt j))).set 1 (.slice J code.length R)).set 2 (.int .i64 (p.pos j));have kF:=(((aa.refl (fun b=>b≠o) W).setCell (p:=⟨o,0,none⟩) (.inl fun h=>h rfl) (.string (p.txt j))).setCell (p:=⟨o,1,none⟩) (.inl fun h=>h rfl) (.slice J code.length R)).setCell (p:=⟨o,2,none⟩) (.inl fun h=>h rfl) (.int .i64 (p.pos j));simp only[ga] at bF;generalize World.setCell _ ⟨o,2,none⟩ _=WF at*;have a1:=I.low;have Y:=I.few;have a6:=I.par.le;have a7:=I.par.low;have r2:=(hr.keep nM kF (fun b h1 h2=>by show b≠o;omega)).read (bw:=120) nM (by omega);have a8:=kF.size;have kw:aa (fun b=>b≠pb) w WF:=by have h1:aa (fun b=>b≠pb∧b<w.heap.size) w WF:=I.kept.trans (kF.mono fun b hb=>by have:=hb.2;show b≠o;omega);exact⟨h1.os,h1.output,h1.size,fun i hi hS=>h1.block i hi ⟨hS,hi⟩⟩
 obtain⟨c0,c1,c2⟩:=bF.c3;refine bodyPost_ret (v:=.agg #[.string (p.txt j),.slice J code.length R,.int .i64 (p.pos j)]) (by simp[results,Tryz.results128,go_sem,ht,c0,c1,c2]) hd ⟨_,m,rfl,Y.1,kw,(I.par.kept kF fun b hb=>by show b≠o;omega).pat,[_,_,_],rfl,rfl,?_,_,rfl,?_,?_,?_⟩
 ·intro u hu
  simp at hu;rcases hu with rfl|rfl|rfl<;>rfl
 ·exact it.wide (fun b hb=>⟨by omega,hb.2⟩) r2
 ·have:=We hp j
  show aV ((p.pos j:Nat):Int);unfold aV;omega
 exact Hn hp j
theorem UR (pb:Nat)(p:cr)(A:Option Addr)(C k m k':Nat)(b:eS)(w:World)(h:Uo w pb p A C k m)(hp:p.Ok)(hl:gz w)(hm:m≤k)(h4:p.l.length≤4096)(hr:TK p k=some (b,k')):
 Calls prog 128 #[.pointer (some ⟨pb,0,none⟩)] w (Wo pb p A C k' b w):=by
 obtain⟨iI,IS⟩:=iH Xi;obtain⟨q1,q2,code,b1,rfl⟩:=VD hr;have i7:=hp.len;have a6:=J3 h hl b1;obtain⟨W0,b8⟩:=eQ (w.alloc (.cells #[.string ⟨#[]⟩,.slice none 0 0,.int .i64 0] 171));have c8:=aC1 b8;have bR:=aA0 b8;have H0:=J4 b8 c8 bR (h.keep c8);clear h hl hr b1 b8 c8 bR;go_enter func128,ntmps128;go_upto_region 1 with fail;rw[show w.alloc (.cells #[.string ⟨#[]⟩,.slice none 0 0,.int .i64 0] 171)=W0 from H0.1.symm];go_wp2_with fail;refine(Vv pb p A C k m W0 H0.2.2.2 hp).mono ?_;rintro e w1 ⟨rfl,a7⟩;have H1:=J3 (H0.2.2.2.keep a7) (H0.2.2.1.kept a7 trivial) (H0.2.1.trans a7);clear a7;go_wp2_with fail;refine(xi pb p A C k m w1 H1.1 hp q1).mono ?_;rintro e Y ⟨rfl,b9⟩;have b0:=H1.1.box.lt;have c6:=H0.2.2.1.lt;go_upto_region 2 with fail;have k3:aa All Y (Y.alloc (.cells #[.string (p.txt k),.slice none 0 0,.int .i64 (p.pos k)] 171)):=kR.alloc _;have b3:al (Y.alloc (.cells #[.string (p.txt k),.slice none 0 0,.int .i64 (p.pos k)] 171)) Y.heap.size 171 #[.string (p.txt k),.slice none 0 0,.int .i64 (p.pos k)]:=al.new _ _ _;obtain⟨rb,c9⟩:=eQ w.heap.size;obtain⟨cb,c3⟩:=eQ Y.heap.size;have c7:Y.heap.size<(Y.alloc (.cells #[.string (p.txt k),.slice none 0 0,.int .i64 (p.pos k)] 171)).heap.size:=by simp
 have d9:=a6.1.box.lt;have e0:XC w rb cb pb p A C k (k+1) m [] (Y.alloc (.cells #[.string (p.txt k),.slice none 0 0,.int .i64 (p.pos k)] 171)):=by have kz:=b9.1.trans k3.all;have j0:=b9.1.size;have j1:=H1.2.2.size;have hP:=(a6.1.pb.kept H1.2.2 (fun _ _=>trivial)).moved b9;exact⟨(H1.2.2.all.trans (kz.mono fun b hb=>hb.1)),hP.kept k3 (fun _ _=>trivial),by rw[c9];exact H1.2.1.kept kz (by show w.heap.size≠pb;omega),⟨none,0,by rw[c3];exact b3,dR.nil⟩,⟨by omega,by have:=c6;have:=H1.2.1.lt;omega,by rw[c3];exact c7⟩,by omega,Nat.zero_le _⟩
 rw[←c3];generalize Y.alloc _=W3 at*;have H3:=oH e0;have HR:=J2 c9 d9;clear k3 b3 c7 c3 e0 b9 b0 c6 c9 d9;rw[←HR.1];go_wp2_with fail;refine(Ar pb p A C (k+1) m ⟨#[58]⟩ W3 H3.out.par.pat hp q2 (by decide)).mono ?_;rintro e W4 ⟨rfl,e6⟩;have H4:=oH (H3.out.moved e6 ⟨by omega,Nat.zero_le _⟩);clear e6;go_wp2_with fail;go_loopg [] (p.l.length+1) (fun g wr=>∃(f k1 m1:Nat) (R:List cX),g=f∧UF p f k1 R=some (code,k')∧XC w rb cb pb p A C k k1 m1 R wr);·exact⟨p.l.length+1,k+1+1,m,[],rfl,a6.2.2,H4.out⟩
 obtain⟨f,k1,m1,R,j4,d7,e7⟩:=hrel;obtain⟨wo,i6⟩:=eQ wr;subst i6;cases f with
 |zero=>cases d7
 |succ f=>
 have HS:=J2 e7 d7;clear e7 d7;go_wp2_with fail;refine(xt pb p A C k1 m1 0 wo HS.1.par.pat hp (by omega)).mono ?_;rintro e w1 ⟨rfl,a7⟩;rw[dj];have J:=oH (HS.1.all a7);clear a7;rcases VY HS.2 with ⟨hex,e1,e2⟩|⟨a1,b2,x,j,e8,e9⟩
 ·subst e1;subst e2;by_cases a1:p.txt k'=XA
  ·have h0:((p.txt k').toList==[125])=true:=by rw[TY _ _ XA (by kernel_rfl),bL a1]
   clear a1 hex;go_upto_region 5 with fail;obtain⟨A1,C1,I,b4⟩:=J.out.box;obtain⟨c0,c1,c2⟩:=I.c3;obtain⟨t0,t1,t2⟩:=J.out.res.c3;have f0:=J.out.res.free 0;have f1:=J.out.res.free 1;have f2:=J.out.res.free 2;have HB:=J2 I b4;clear I b4;go_wp2_with fail;exact Wy pb rb cb p hp A C k k' m1 k m code w w1 A1 C1 _ rfl rfl a6.1 h4 J.out HB.2
  have b2:Tp p k'=true:=hex.resolve_left a1;have h0:((p.txt k').toList==[125])=false:=by rw[TY _ _ XA (by kernel_rfl),cI a1]
  have HE:=oH b2;clear a1 hex b2;go_wp2_with fail;refine(TX pb p A C k' m1 w1 J.out.par.pat hp).mono ?_;rintro e Y ⟨rfl,b6⟩;rw[HE.out];have o:=oH (J.out.all b6);clear b6;go_upto_region 5 with fail;obtain⟨A1,C1,I,b4⟩:=o.out.box;obtain⟨c0,c1,c2⟩:=I.c3;obtain⟨t0,t1,t2⟩:=o.out.res.c3;have f0:=o.out.res.free 0;have f1:=o.out.res.free 1;have f2:=o.out.res.free 2;have HB:=J2 I b4;clear I b4;go_wp2_with fail;exact Wy pb rb cb p hp A C k k' m1 k m code w Y A1 C1 _ rfl rfl a6.1 h4 o.out HB.2
 have h0:((p.txt k1).toList==[125])=false:=by rw[TY _ _ XA (by kernel_rfl),cI a1]
 have HE:=J3 b2 e8 e9;clear a1 b2 e8 e9;go_wp2_with fail;refine(TX pb p A C k1 m1 w1 J.out.par.pat hp).mono ?_;rintro e Y ⟨rfl,b6⟩;rw[HE.1];have o:=oH (J.out.all b6);clear b6;go_upto_region 4 with fail;obtain⟨A1,C1,I,h3,P,r1,r2,r3,r4,r5⟩:=o.out.box;have b0:=o.out.low;have j2:=o.out.few;have j3:=o.out.par.low;have j5:=Xk HE.2.1;have h5:=Xl hp HE.2.1;have d8:Value.ownBlock (.slice A1 R.length C1)≠some cb:=fun e=>by have:=(aD r1 e).1;omega
 have h6:Value.ownBlock (.slice A1 R.length C1)≠some rb:=fun e=>by have:=(aD r1 e).1;omega
 have h7:Value.ownBlock (.slice A1 R.length C1)≠some pb:=fun e=>by have:=(aD r1 e).1;omega
 have HC:=oH (fun wn (hk:aa (fun i=>Value.ownBlock (.slice A1 R.length C1)≠some i∧i≠pb) Y wn) (hn:PB wn w.heap.size pb p A C k1 m1)=>Wc pb p A C k1 m1 j x wn hn.pat hp (a6.2.1.moved a6.1 (o.out.kept.trans (hk.mono fun b hb=>⟨fun e=>by have:=(aD r1 e).1;have:=hb.2;omega,hb.1⟩))) (by omega) HE.2.1);have HV:=oH (fun wn (hk:aa (fun i=>Value.ownBlock (.slice A1 R.length C1)≠some i∧i≠pb) Y wn)=>show wn.cell? ⟨cb,1,none⟩=some (.slice A1 R.length C1) from(I.kept hk ⟨d8,by omega⟩).cell 1);have HG:=oH (Uf nM (pb:=pb) (W:=Y) (x:=x) (PS:=(fun b wn=>PB wn w.heap.size pb p A C (if b then j else k1) (if b then m1+1 else m1))) (v:=(.slice A1 R.length C1)) (by omega) r1 h7 fun b wa wb hk hP=>hP.kept hk fun i hi e=>by have:=(aD r1 e).1;omega);have HR:=J10 r1 (show PB Y.drew w.heap.size pb p A C (if false=true then j else k1) (if false=true then m1+1 else m1) from o.out.par.kept (S:=All) kR.drew fun _ _=>trivial) h5 d8 h6 r2 r3 r4 r5 I;clear r1 r2 r3 r4 r5 I h5 h7 d8 h6;refine hH 7 3 [4,5] (SY Y (fun i=>i≠pb) (cb+1) 185 9 (.slice A1 R.length C1) R.length h3.flatten (fun b wn=>PB wn w.heap.size pb p A C (if b then j else k1) (if b then m1+1 else m1))) [22,23,24] (FY Y (fun i=>i≠pb) (cb+1) 185 9 (.slice A1 R.length C1) R.length h3.flatten Up (Tq zH Y 9 x) 23 22) (fun i=>if i=3 then some (fun u=>∃a f,u=.agg (wg x a f)) else if i=4 then some Oa else if i=5 then some (NT R.length) else none) (fun _=>false) (fun _ _=>False) (by kernel_rfl) (by kernel_rfl) (by kernel_rfl) (by kernel_rfl) (VJ _ _ _) (by kernel_rfl) (by decide) (SY.first HR.1 HR.2.1) (fun _ _ _ h=>h.elim) ?_;simp only[tK];iterate 3 refine OY (fun b wn hs hp=>by(have q:=HV.out wn hs.1;skip;go_simp;with_reducible rfl)) ?_
 refine Hy (V:=(fun u=>∃a f,u=.agg (wg x a f))) HG.out (by rfl) (by rfl) (by rfl) rfl (by decide) (fun wn hs=>⟨_,_,by(have q:=HV.out wn hs.1;go_simp<;>with_reducible rfl),(HC.out wn hs.1 hs.2.2).mono fun e w' h=>by obtain⟨u,e1,e2,e3,e4,e5⟩:=Xj h HR.2.2.1.1 hs.1.size;exact⟨u,e1,e2,e3,hs.2.2.moved ⟨e3,e4⟩,e5⟩⟩) ?_;rintro u ⟨a0,f0,rfl⟩;simp only[PS];refine Tv HG.out (by decide) (by rfl) (by rfl) (by rfl) rfl (by decide) _ rfl (by decide) (fun wn hs=>by(simp only[wg,Up];go_simp<;>with_reducible rfl)) ?_;intro g;simp only[PS];refine Tu HG.out (by decide) (by rfl) (by rfl) (by rfl) rfl (by decide) (by decide) (.tmp 20) 169 rfl iI _ 120 underlying169 IS.1 IS.2.1 IS.2.2.1 IS.2.2.2 rfl (by decide) rfl g rfl (by decide) (fun y w hy=>hy.cells) (by unfold maxLen;omega) (by omega) (by omega) ?_;intro A5 c5;simp only[PS];refine OY (fun b wn hs hp=>by(have q:=HV.out wn hs.1;skip;go_simp;with_reducible rfl)) ?_;refine TE fun wt h8 hF=>?_;have c4:=hF 24 (by simp) _ rfl;unfold FY at c4;rw[ae (by decide),ae (by decide)] at c4;have HT:=oH (show SY _ _ _ _ _ _ _ _ _ _ _ from h8);have HA:=oH c4;clear h8 hF c4;simp only[dK];have b7:=HR.2.2.2.2.2.2.2.2.2.kept HT.1 ⟨HR.2.2.2.1,by omega⟩;have b5:=b7.cl 1;have f5:=b7.free 1;clear b7;go_wp2_with fail;go_roundg f
 ·refine⟨f,j,m1+1,R++[x],rfl,HE.2.2,?_⟩;obtain⟨y,wz,q1,q2,q3,q4,q5⟩:=HA.out;have b7:=HR.2.2.2.2.2.2.2.2.2.kept HT.1 ⟨HR.2.2.2.1,by omega⟩;have h9:=Us nM (pb:=pb) (B:=cb+1) (by omega) (by omega) HR.1 HR.2.2.2.2.2.1 HR.2.2.2.2.2.2.1 HR.2.2.2.2.2.2.2.1 HR.2.2.2.2.2.2.2.2.1 HT.1 q1 q2 q3 q4 q5;have kc:aa (fun b=>b≠cb) wt (wt.setCell ⟨cb,1,none⟩ (.slice A5 (R.length+1) c5)):=kR.setCell (.inl fun h=>h rfl) _;have i1:=b7.set 1 (.slice A5 (R.length+1) c5);simp only[ga] at i1;have a8:(R++[x]).length=R.length+1:=by simp
  refine⟨(o.out.kept.trans (HT.1.mono fun b hb=>⟨fun e=>by have:=(aD HR.1 e).1;have:=hb.2;omega,hb.1⟩)).trans (kc.mono fun b hb=>by have:=hb.2;show b≠cb;omega),(show PB wt w.heap.size pb p A C j (m1+1) from HT.2.2).kept kc (fun b hb=>by show b≠cb;omega),(o.out.res.kept HT.1 ⟨HR.2.2.2.2.1,by omega⟩).kept kc (by show rb≠cb;omega),⟨A5,c5,by rw[a8];exact i1,by rw[a8];exact h9.keep nM kc fun b h1 h2=>by show b≠cb;omega⟩,⟨b0.1,b0.2.1,by have:=HT.1.size;have:=kc.size;omega⟩,?_,?_⟩;·have:=HR.2.2.1.2;omega
  rw[a8];omega
 omega
section
theorem Xg:(prog.info? 171).map (fun i=>(i.zero,i.size,i.bytes))=some (some (.agg #[.string ⟨#[]⟩,.slice none 0 0,.int .i64 0]),3,48):=by kernel_rfl
theorem Vq {p:cr}{f k k':Nat}{l c:List eS}(h:TB p (f+1) k l=some (c,k')):
 (Tp p k=false∧c=l∧k'=k)∨(Tp p k=true∧l.length<64∧∃x j,TK p k=some (x,j)∧TB p f j (l++[x])=some (c,k')):=by
 rw[TB] at h;split at h
 ·rename_i o;split at h;·cases h
  rename_i C;refine .inr ⟨o,by omega,?_⟩;cases hi:TK p k with
  |none=>rw[hi] at h;cases h
  |some y=>rw[hi] at h;exact⟨y.1,y.2,rfl,h⟩
 rename_i o;cases h;exact .inl ⟨by simpa using o,rfl,rfl⟩
theorem VZ {p:cr}{k k':Nat}{x:cD}(h:Vf p k=some (x,k')):
 p.is (k+1) 1=true∧p.txt (k+1+1)=Yu∧p.txt (k+1+1+1)=Yn∧p.txt (k+1+1+1+1)=YB∧∃b j l i,TK p (k+1+1+1+1+1)=some (b,j)∧TB p (p.l.length+1) j [b]=some (l,i)∧p.txt i=XA∧k'=i+1∧x=⟨p.txt (k+1),[],l,p.pos k⟩:=by
 unfold Vf Ty TR at h;by_cases o:p.is (k+1) 1=true
 ·by_cases C:p.txt (k+1+1)=Yu
  ·(
 by_cases I:p.txt (k+1+1+1)=Yn
 ·by_cases J:p.txt (k+1+1+1+1)=YB
  ·(
 simp only[o,C,I,J,if_true,Option.bind_eq_bind,Option.bind_some] at h;cases hb:TK p (k+1+1+1+1+1) with
 |none=>rw[hb] at h;cases h
 |some y=>
  rw[hb] at h;simp only[Option.bind_some] at h;cases R:TB p (p.l.length+1) y.2 [y.1] with
  |none=>rw[R] at h;cases h
  |some z=>
   rw[R] at h;simp only[Option.bind_some] at h;by_cases Y:p.txt z.2=XA;·simp only[Y,if_true,Option.bind_some] at h;cases h;exact⟨o,C,I,J,y.1,y.2,z.1,z.2,rfl,R,Y,rfl,rfl⟩
   simp[Y] at h)
  simp[o,C,I,J] at h
 simp[o,C,I] at h)
  simp[o,C] at h
 simp[o] at h
theorem Wd (pb:Nat)(p:cr)(A:Option Addr)(C k m:Nat)(w:World)(h:Uo w pb p A C k m)(hp:p.Ok)(q1:p.txt k=Yu)(q2:p.txt (k+1)=Yn):
 Calls prog 126 #[.pointer (some ⟨pb,0,none⟩)] w fun e w'=>e=.returned (.slice none 0 0)∧wi pb p A C (k+1+1) m w w':=by
 obtain⟨W1,j⟩:=eQ ((w.alloc (.cells #[.pointer (some ⟨pb,0,none⟩)] 138)).alloc (.cells #[.slice none 0 0] 22));have Y:=aC2 j;have g0:al W1 w.heap.size 138 #[.pointer (some ⟨pb,0,none⟩)]:=by rw[j];exact(al.new w _ _).alloc _
 have g1:al W1 (w.heap.size+1) 22 #[.slice none 0 0]:=by
  rw[j];have h1:(w.alloc (.cells #[.pointer (some ⟨pb,0,none⟩)] 138)).heap.size=w.heap.size+1:=by simp
  rw[←h1];exact al.new _ _ _
 have I:=J6 j Y (h.keep Y) g0 g1 h.box.lt;have HQ:=oH q2;clear h j Y g0 g1 q2;go_enter func126,ntmps126;go_upto_region 2 with fail;rw[←I.1];have g0:=I.2.2.2.1.cl 0;go_wp2_with fail;refine(Ar pb p A C k m ⟨#[40]⟩ W1 I.2.2.1 hp q1 (by decide)).mono ?_;rintro e W2 ⟨rfl,J⟩;have H2:=J3 J (I.2.2.2.1.kept J.1 (by have:=I.2.2.2.2.2;show w.heap.size≠pb;omega)) (I.2.2.2.2.1.kept J.1 (by have:=I.2.2.2.2.2;show w.heap.size+1≠pb;omega));clear J g0;have g0:=H2.2.1.cl 0;go_wp2_with fail;refine(xt pb p A C (k+1) m 0 W2 H2.1.2 hp (by omega)).mono ?_;rintro e W3 ⟨rfl,o⟩;rw[dj];have a1:((p.txt (k+1)).toList==[41])=true:=by rw[TY _ _ Yn (by kernel_rfl),bL HQ.out]
 have H3:=J4 (H2.1.2.keep o) (H2.2.1.kept o trivial) (H2.2.2.kept o trivial) ((I.2.1.all.trans H2.1.1).trans o.all);clear o g0;have g0:=H3.2.1.cl 0;go_wp2_with fail;refine(Ar pb p A C (k+1) m ⟨#[41]⟩ W3 H3.1 hp HQ.out (by decide)).mono ?_;rintro e W4 ⟨rfl,R⟩;have g1:=(H3.2.2.1.kept R.1 (by have:=I.2.2.2.2.2;show w.heap.size+1≠pb;omega)).cl 0;have H4:=J2 (H3.2.2.2.trans R.1) R.2;clear R g0;go_wp2_with fail;go_ret;exact⟨rfl,H4.out⟩
theorem Tq.early {α:Type}{n:Nat}{El:cO α}{W j w:World}{x:α}{y:Value}(g:cO.Good El)(h:Tq El j n x y w)(Y:W.heap.size≤j.heap.size):Tq El W n x y w:=by obtain⟨cs,o,C,I,J⟩:=h;exact⟨cs,o,C,I,g.wide (fun b R=>⟨by omega,R.2⟩) J⟩
structure Wp (w:World)(rb cb pb:Nat)(p:cr)(A:Option Addr)(C k0:Nat)(s:ByteArray)(k:Nat)(l:List eS)(W:World):Prop where
 kept:aa (Wm pb w.heap.size) w W
 par:∃m,m≤k∧PB W w.heap.size pb p A C k m
 res:al W rb 148 #[.string ⟨#[]⟩,.slice none 0 0,.slice none 0 0,.int .i64 0]
 box:∃A1 C1,al W cb 148 #[.string s,.slice none 0 0,.slice A1 l.length C1,.int .i64 (p.pos k0)]∧dR 3 171 qh (cb+1) W (.slice A1 l.length C1) l
 low:w.heap.size≤rb∧rb<cb∧cb<W.heap.size
 lpb:pb<w.heap.size
section
variable {w W W':World} {rb cb pb:Nat} {p:cr} {A:Option Addr} {C k0 k k' m':Nat} {s:ByteArray} {l:List eS}
theorem Wp.moved (h:Wp w rb cb pb p A C k0 s k l W)(hm:wi pb p A C k' m' W W')(o:m'≤k'):Wp w rb cb pb p A C k0 s k' l W':=by have I:=h.lpb;obtain⟨m,_,J⟩:=h.par;obtain⟨R,Y,j,hr⟩:=h.box;have:=h.low;exact⟨h.kept.trans (hm.1.mono fun b j=>j.1),⟨m',o,J.moved hm⟩,h.res.kept hm.1 (by show rb≠pb;omega),⟨R,Y,j.kept hm.1 (by show cb≠pb;omega),hr.keep lK hm.1 fun b h1 h2=>by show b≠pb;omega⟩,⟨this.1,this.2.1,by have:=hm.1.size;omega⟩,I⟩
theorem Wp.all (h:Wp w rb cb pb p A C k0 s k l W)(j:aa All W W'):Wp w rb cb pb p A C k0 s k l W':=by obtain⟨m,hm,o⟩:=h.par;exact h.moved ⟨j.all,o.pat.keep j⟩ hm
theorem Wp.set (h:Wp w rb cb pb p A C k0 s k l W)(j:Nat)(v:Value)(J:ByteArray)
 (Y:∀a:Value,([.string s,.slice none 0 0,a,.int .i64 (p.pos k0)]:List Value).set j v=[.string J,.slice none 0 0,a,.int .i64 (p.pos k0)]):Wp w rb cb pb p A C k0 J k l (W.setCell ⟨cb,j,none⟩ v):=by
 have hl:=h.lpb;obtain⟨m,hm,hp⟩:=h.par;obtain⟨A1,C1,I,hr⟩:=h.box;have o:=h.low;have kc:aa (fun b=>b≠cb) W (W.setCell ⟨cb,j,none⟩ v):=kR.setCell (.inl fun h=>h rfl) _;have R:=I.set j v;rw[List.setIfInBounds_toArray,Y] at R;exact⟨h.kept.trans (kc.mono fun b I=>by have:=I.2;show b≠cb;omega),⟨m,hm,hp.kept kc fun b I=>by show b≠cb;omega⟩,h.res.kept kc (by show rb≠cb;omega),⟨A1,C1,R,hr.keep lK kc fun b h1 h2=>by show b≠cb;omega⟩,⟨o.1,o.2.1,by have:=kc.size;omega⟩,hl⟩
end
def Wq (pb:Nat)(p:cr)(A:Option Addr)(C k':Nat)(x:cD)(w:World)(e:Ending)(j:World):Prop:=
 ∃y m',e=.returned y∧m'≤k'∧aa (fun i=>i≠pb) w j∧Uo j pb p A C k' m'∧Tq uA w 4 x y j
theorem XJ (pb rb cb:Nat)(p:cr)(Y:p.Ok)(A:Option Addr)(C k0 k:Nat)(i:Nat)(l:List eS)(w W:World)(o:Option Addr)(I:Nat)(a:Act)(ht:a.tmps[2]? =some (.pointer (some ⟨rb,0,none⟩)))(hd:a.defers=[])(a6:l.length≤64)
 (j:Wp w rb cb pb p A C k0 (p.txt i) k l W) (hr:dR 3 171 qh (cb+1) W (.slice o l.length I) l):
 bodyPost prog Tryz.f79 (Wq pb p A C k ⟨p.txt i,[],l,p.pos k0⟩ w) .ret a ((((W.setCell ⟨rb,0,none⟩ (.string (p.txt i))).setCell ⟨rb,1,none⟩ (.slice none 0 0)).setCell ⟨rb,2,none⟩ (.slice o l.length I)).setCell ⟨rb,3,none⟩ (.int .i64 (p.pos k0))):=by
 have bF:=(((j.res.set 0 (.string (p.txt i))).set 1 (.slice none 0 0)).set 2 (.slice o l.length I)).set 3 (.int .i64 (p.pos k0));have kF:=((((aa.refl (fun b=>b≠rb) W).setCell (p:=⟨rb,0,none⟩) (.inl fun h=>h rfl) (.string (p.txt i))).setCell (p:=⟨rb,1,none⟩) (.inl fun h=>h rfl) (.slice none 0 0)).setCell (p:=⟨rb,2,none⟩) (.inl fun h=>h rfl) (.slice o l.length I)).setCell (p:=⟨rb,3,none⟩) (.inl fun h=>h rfl) (.int .i64 (p.pos k0));simp only[ga] at bF;generalize World.setCell _ ⟨rb,3,none⟩ _=WF at*;have a1:=j.low;have a7:=j.lpb;obtain⟨m,hm,hP⟩:=j.par;have r2:=(hr.keep lK kF (fun b J h2=>by show b≠rb;omega)).read (bw:=48) lK (by omega);have a8:=kF.size;have kw:aa (fun b=>b≠pb) w WF:=by have J:aa (fun b=>b≠pb∧b<w.heap.size) w WF:=j.kept.trans (kF.mono fun b R=>by have:=R.2;show b≠rb;omega);exact⟨J.os,J.output,J.size,fun i hi hS=>J.block i hi ⟨hS,hi⟩⟩
 obtain⟨c0,c1,c2,c3⟩:=bF.c4;refine bodyPost_ret (v:=.agg #[.string (p.txt i),.slice none 0 0,.slice o l.length I,.int .i64 (p.pos k0)]) (by simp[results,Tryz.results79,go_sem,ht,c0,c1,c2,c3]) hd ⟨_,m,rfl,hm,kw,(hP.kept kF fun b R=>by show b≠rb;omega).pat,[_,_,_,_],rfl,rfl,?_,_,_,rfl,Sl.nil,?_,?_,?_,?_⟩
 ·intro u hu
  simp at hu;rcases hu with rfl|rfl|rfl|rfl<;>rfl
 ·exact eH.wide (fun b R=>⟨by omega,R.2⟩) r2
 ·have:=We Y k0
  show aV ((p.pos k0:Nat):Int);unfold aV;omega
 ·exact Hn Y i
 intro s j;cases j
theorem WQ (pb:Nat)(p:cr)(A:Option Addr)(C k m k':Nat)(x:cD)(w:World)(h:Uo w pb p A C k m)(hp:p.Ok)(hl:gz w)(hm:m≤k)(h4:p.l.length≤4096)(hr:Vf p k=some (x,k')):
 Calls prog 79 #[.pointer (some ⟨pb,0,none⟩)] w (Wq pb p A C k' x w):=by
 obtain⟨iI,IS⟩:=iH Xg;obtain⟨q1,q2,q3,q4,b,j,l,i,j2,j3,q5,rfl,rfl⟩:=VZ hr;have l8:=hp.len;have R:=J8 h hl j2 j3 q5 q2 q3 q4;obtain⟨W0,e8⟩:=eQ (w.alloc (.cells #[.string ⟨#[]⟩,.slice none 0 0,.slice none 0 0,.int .i64 0] 148));have h7:=aC1 e8;have bR:=aA0 e8;have H0:=J4 e8 h7 bR (h.keep h7);have n1:=Xm q1;clear h hl hr j2 j3 q2 q3 q4 q5 e8 h7 bR;go_enter func79,ntmps79;go_upto_region 1 with fail;rw[show w.alloc (.cells #[.string ⟨#[]⟩,.slice none 0 0,.slice none 0 0,.int .i64 0] 148)=W0 from H0.1.symm];go_wp2_with fail;refine(Vv pb p A C k m W0 H0.2.2.2 hp).mono ?_;rintro e w1 ⟨rfl,b6⟩;go_upto_region 2 with fail;have k3:aa All w1 (w1.alloc (.cells #[.string ⟨#[]⟩,.slice none 0 0,.slice none 0 0,.int .i64 (p.pos k)] 148)):=kR.alloc _;have b3:al (w1.alloc (.cells #[.string ⟨#[]⟩,.slice none 0 0,.slice none 0 0,.int .i64 (p.pos k)] 148)) w1.heap.size 148 #[.string ⟨#[]⟩,.slice none 0 0,.slice none 0 0,.int .i64 (p.pos k)]:=al.new _ _ _;obtain⟨rb,h8⟩:=eQ w.heap.size;obtain⟨cb,e9⟩:=eQ w1.heap.size;have h6:w1.heap.size<(w1.alloc (.cells #[.string ⟨#[]⟩,.slice none 0 0,.slice none 0 0,.int .i64 (p.pos k)] 148)).heap.size:=by simp
 have h9:=R.1.box.lt;have j4:=H0.2.2.1.lt;have j5:Wp w rb cb pb p A C k ⟨#[]⟩ k [] (w1.alloc (.cells #[.string ⟨#[]⟩,.slice none 0 0,.slice none 0 0,.int .i64 (p.pos k)] 148)):=by have l9:=b6.size;have kz:=(H0.2.1.trans b6).trans k3;exact⟨kz.all,⟨m,hm,R.1.pb.kept kz fun _ _=>trivial⟩,by rw[h8];exact H0.2.2.1.kept (b6.trans k3) trivial,⟨none,0,by rw[e9];exact b3,dR.nil⟩,⟨by omega,by omega,by rw[e9];exact h6⟩,h9⟩
 rw[←e9];generalize w1.alloc _=W3 at*;have H3:=oH j5;have o:=J2 h8 h9;clear k3 b3 h6 e9 j5 b6 j4 h8 h9;rw[←o.1];obtain⟨m3,n2,h0⟩:=H3.out.par;have bq:=h0.box.cl 2;have fq:=h0.box.free 2;have I:wi pb p A C (k+1) m3 W3 (W3.setCell ⟨pb,2,none⟩ (.int .i64 ((k+1:Nat)))):=wi.of h0.pat kR (by omega);have H4:=oH (H3.out.moved I (by omega));clear I h0;go_upto_region 3 with fail;rw[show((k:Int)+1)=((k+1:Nat):Int) by go_num];generalize W3.setCell _ _=W4 at*;clear bq fq;obtain⟨m4,n3,j6⟩:=H4.out.par;have k9:=oH j6;clear j6;go_wp2_with fail;refine(xi pb p A C (k+1) m4 W4 k9.out.pat hp q1).mono ?_;rintro e W5 ⟨rfl,I⟩;have H5:=oH (H4.out.moved I (by omega));clear I;obtain⟨A5,C5,a1,_⟩:=H5.out.box;have b0:=a1.cl 0;have f0:=a1.free 0;clear a1;go_upto_region 4 with fail;have H6:=oH (H5.out.set 0 (.string (p.txt (k+1))) (p.txt (k+1)) (fun _=>rfl));clear b0 f0;generalize W5.setCell _ _=W6 at*;obtain⟨m6,n4,j7⟩:=H6.out.par;have l2:=oH j7;clear j7;go_wp2_with fail;refine(Wd pb p A C (k+1+1) m6 W6 l2.out.pat hp R.2.2.2.2.2.1 R.2.2.2.2.2.2.1).mono ?_;rintro e W7 ⟨rfl,I⟩;have H7:=oH (H6.out.moved I (by omega));clear I;obtain⟨A7,C7,a1,_⟩:=H7.out.box;have b1:=a1.cl 1;have f1:=a1.free 1;clear a1;go_upto_region 5 with fail;have H8:=oH (H7.out.set 1 (.slice none 0 0) (p.txt (k+1)) (fun _=>rfl));clear b1 f1;generalize W7.setCell _ _=W8 at*;obtain⟨m8,n5,j8⟩:=H8.out.par;have l3:=oH j8;clear j8;go_wp2_with fail;refine(Ar pb p A C (k+1+1+1+1) m8 ⟨#[123]⟩ W8 l3.out.pat hp R.2.2.2.2.2.2.2 (by decide)).mono ?_;rintro e W9 ⟨rfl,I⟩;have H9:=oH (H8.out.moved I (by omega));clear I;obtain⟨l0,h3⟩:∃l0:List eS,l0=[]:=⟨_,rfl⟩;rw[←h3] at H9;have m9:l0.length≤3:=by rw[h3];exact Nat.zero_le _
 have l4:=oH h3;clear h3;go_upto_region 6 with fail;obtain⟨A1,C1,a6,c8,P,r1,r2,r3,r4,r5⟩:=H9.out.box;have b7:=H9.out.low;have c9:=H9.out.lpb;have b8:Value.ownBlock (.slice A1 l0.length C1)≠some cb:=fun e=>by have:=(aD r1 e).1;omega
 have d7:Value.ownBlock (.slice A1 l0.length C1)≠some rb:=fun e=>by have:=(aD r1 e).1;omega
 have d8:Value.ownBlock (.slice A1 l0.length C1)≠some pb:=fun e=>by have:=(aD r1 e).1;omega
 have HC:=oH (show∀wn,aa (fun i=>Value.ownBlock (.slice A1 l0.length C1)≠some i∧i≠pb) W9 wn→(∃m1,m1≤k+1+1+1+1+1∧PB wn w.heap.size pb p A C (k+1+1+1+1+1) m1)→Calls prog 128 #[.pointer (some ⟨pb,0,none⟩)] wn (fun e w'=>∃u m3,e=.returned u∧m3≤j∧aa (fun i=>i≠pb) wn w'∧PB w' w.heap.size pb p A C j m3∧Tq qh wn 3 b u w') from fun wn hk hn=>by obtain⟨m1,i1,hn⟩:=hn;exact(UR pb p A C (k+1+1+1+1+1) m1 j b wn hn.pat hp (R.2.1.moved R.1 (H9.out.kept.trans (hk.mono fun b hb=>⟨fun e=>by have:=(aD r1 e).1;have:=hb.2;omega,hb.1⟩))) i1 h4 R.2.2.1).mono fun e w' h=>by obtain⟨u,m3,e1,e2,e3,e4,e5⟩:=h;exact⟨u,m3,e1,e2,e3,hn.moved ⟨e3,e4⟩,e5⟩);have HV:=oH (fun wn (hk:aa (fun i=>Value.ownBlock (.slice A1 l0.length C1)≠some i∧i≠pb) W9 wn)=>show wn.cell? ⟨cb,2,none⟩=some (.slice A1 l0.length C1) from(a6.kept hk ⟨b8,by omega⟩).cell 2);have HG:=oH (Uf lK (pb:=pb) (W:=W9) (x:=b) (PS:=(fun b wn=>if b then∃m',m'≤j∧PB wn w.heap.size pb p A C j m' else∃m1,m1≤(k+1+1+1+1+1)∧PB wn w.heap.size pb p A C (k+1+1+1+1+1) m1)) (v:=(.slice A1 l0.length C1)) (by omega) r1 d8 fun b wa wb hk hP=>by cases b<;>(obtain⟨m2,a7,hP⟩:=hP;exact⟨m2,a7,hP.kept hk fun i hi e=>by have:=(aD r1 e).1;omega⟩));have o:=J9 r1 (show(if false=true then∃m',m'≤j∧PB W9.drew w.heap.size pb p A C (j) m' else∃m1,m1≤k+1+1+1+1+1∧PB W9.drew w.heap.size pb p A C (k+1+1+1+1+1) m1) from by obtain⟨m2,a7,hP⟩:=H9.out.par;exact⟨m2,a7,hP.kept (S:=All) kR.drew fun _ _=>trivial⟩) b8 d7 r2 r3 r4 r5 a6;clear r1 r2 r3 r4 r5 a6 d8 b8 d7;refine hH 7 3 [4,5] (SY W9 (fun i=>i≠pb) (cb+1) 171 3 (.slice A1 l0.length C1) l0.length c8.flatten (fun b wn=>if b then∃m',m'≤j∧PB wn w.heap.size pb p A C j m' else∃m1,m1≤(k+1+1+1+1+1)∧PB wn w.heap.size pb p A C (k+1+1+1+1+1) m1)) [25,26,27] (FY W9 (fun i=>i≠pb) (cb+1) 171 3 (.slice A1 l0.length C1) l0.length c8.flatten Up (Tq qh W9 3 b) 26 25) (fun i=>if i=3 then some (fun u=>∃s v n,u=.agg #[.string s,v,.int .i64 n]) else if i=4 then some Oa else if i=5 then some (NT l0.length) else none) (fun _=>false) (fun _ _=>False) (by kernel_rfl) (by kernel_rfl) (by kernel_rfl) (by kernel_rfl) (VJ _ _ _) (by kernel_rfl) (by decide) (SY.first o.1 o.2.1) (fun _ _ _ h=>h.elim) ?_;simp only[tK];iterate 3 refine OY (fun b wn hs hp=>by(have q:=HV.out wn hs.1;skip;go_simp;with_reducible rfl)) ?_
 refine Hy (V:=(fun u=>∃s v n,u=.agg #[.string s,v,.int .i64 n])) HG.out (by rfl) (by rfl) (by rfl) rfl (by decide) (fun wn hs=>⟨_,_,by(have q:=HV.out wn hs.1;go_simp<;>with_reducible rfl),(HC.out wn hs.1 hs.2.2).mono fun e w' h=>by obtain⟨u,m3,e1,e2,e3,e4,e5⟩:=h;exact⟨u,e1,(by obtain⟨cs,e6,_,_,v,e7,_⟩:=e5;subst e7;exact⟨_,_,_,e6⟩),e3,⟨m3,e2,e4⟩,e5.early lK hs.1.size⟩⟩) ?_;rintro u ⟨s0,v0,n0,rfl⟩;simp only[PS];refine Tv HG.out (by decide) (by rfl) (by rfl) (by rfl) rfl (by decide) _ rfl (by decide) (fun wn hs=>by(simp only[Up];go_simp<;>with_reducible rfl)) ?_;intro g;simp only[PS];refine Tu HG.out (by decide) (by rfl) (by rfl) (by rfl) rfl (by decide) (by decide) (.tmp 23) 146 rfl iI _ 48 underlying146 IS.1 IS.2.1 IS.2.2.1 IS.2.2.2 rfl (by decide) rfl g rfl (by decide) (fun y w hy=>hy.cells) (by unfold maxLen;omega) (by omega) (by omega) ?_;intro A5 c5;simp only[PS];refine OY (fun b wn hs hp=>by(have q:=HV.out wn hs.1;skip;go_simp;with_reducible rfl)) ?_;refine TE fun wt d9 hF=>?_;have a8:=hF 27 (by simp) _ rfl;unfold FY at a8;rw[ae (by decide),ae (by decide)] at a8;have HT:=oH (show SY _ _ _ _ _ _ _ _ _ _ _ from d9);have HA:=oH a8;clear d9 hF a8;simp only[dK];have Y:=o.2.2.2.2.2.2.2.2.kept HT.1 ⟨o.2.2.1,by omega⟩;have b5:=Y.cl 2;have f5:=Y.free 2;clear Y;go_upto_region 7 with fail;obtain⟨y,wz,q1,q2,q3,q4,q5⟩:=HA.out;have Y:=o.2.2.2.2.2.2.2.2.kept HT.1 ⟨o.2.2.1,by omega⟩;have c4:=Us lK (pb:=pb) (B:=cb+1) (by omega) (by omega) o.1 o.2.2.2.2.1 o.2.2.2.2.2.1 o.2.2.2.2.2.2.1 o.2.2.2.2.2.2.2.1 HT.1 q1 q2 q3 q4 q5;have kc:aa (fun b=>b≠cb) wt (wt.setCell ⟨cb,2,none⟩ (.slice A5 (l0.length+1) c5)):=kR.setCell (.inl fun h=>h rfl) _;have c7:=Y.set 2 (.slice A5 (l0.length+1) c5);simp only[ga] at c7;have J:(l0++[b]).length=l0.length+1:=by simp
 have h5:∃m',m'≤j∧PB wt w.heap.size pb p A C j m':=HT.2.2;have c6:Wp w rb cb pb p A C k (p.txt (k+1)) j (l0++[b]) (wt.setCell ⟨cb,2,none⟩ (.slice A5 (l0.length+1) c5)):=by obtain⟨m2,a7,i6⟩:=h5;exact⟨(H9.out.kept.trans (HT.1.mono fun b hb=>⟨fun e=>by have:=(aD o.1 e).1;have:=hb.2;omega,hb.1⟩)).trans (kc.mono fun b hb=>by have:=hb.2;show b≠cb;omega),⟨m2,a7,i6.kept kc fun b hb=>by show b≠cb;omega⟩,(H9.out.res.kept HT.1 ⟨o.2.2.2.1,by omega⟩).kept kc (by show rb≠cb;omega),⟨A5,c5,by rw[J];exact c7,by rw[J];exact c4.keep lK kc fun b h1 h2=>by show b≠cb;omega⟩,⟨b7.1,b7.2.1,by have:=HT.1.size;have:=kc.size;omega⟩,c9⟩
 have l5:=oH c6;clear Y c4 kc c7 J h5 c6 q1 q2 q3 q4 q5 b5 f5 HA HT o HG HV HC;generalize World.setCell _ _ _=n7 at*;go_loopg [] (p.l.length+1) (fun g wr=>∃(f k1:Nat) (l1:List eS),g=f∧l1.length≤64∧TB p f k1 l1=some (l,i)∧Wp w rb cb pb p A C k (p.txt (k+1)) k1 l1 wr);·exact⟨p.l.length+1,j,[b],rfl,by simp,R.2.2.2.1,by have:=l5.out;rw[l4.out] at this;exact this⟩
 obtain⟨f,k1,l1,n8,j9,i7,k2⟩:=hrel;obtain⟨wo,l6⟩:=eQ wr;subst l6;cases f with
 |zero=>cases i7
 |succ f=>
 have HS:=J2 k2 i7;clear k2 i7;obtain⟨m1,n9,k4⟩:=HS.1.par;have k5:=oH k4;clear k4;go_wp2_with fail;refine(TX pb p A C k1 m1 wo k5.out.pat hp).mono ?_;rintro e w1 ⟨rfl,b6⟩;have b4:=oH (HS.1.all b6);have l7:=oH (k5.out.kept b6 fun _ _=>trivial);clear b6;rcases Vq HS.2 with ⟨e0,e1,e2⟩|⟨e0,j0,x,j1,k6,k7⟩;·subst e1;subst e2;rw[e0];clear e0;go_wp2_with fail;refine(Ar pb p A C i m1 ⟨#[125]⟩ w1 l7.out.pat hp R.2.2.2.2.1 (by decide)).mono ?_;rintro e w2 ⟨rfl,I⟩;have b9:=oH (b4.out.moved I (by omega));clear I;go_upto_region 11 with fail;obtain⟨A1,C1,a6,k8⟩:=b9.out.box;obtain⟨c0,c1,c2,c3⟩:=a6.c4;obtain⟨t0,t1,t2,t3⟩:=b9.out.res.c4;have f0:=b9.out.res.free 0;have f1:=b9.out.res.free 1;have f2:=b9.out.res.free 2;have f3:=b9.out.res.free 3;have HB:=J2 a6 k8;clear a6 k8;go_wp2_with fail;exact XJ pb rb cb p hp A C k (i+1) (k+1) l w w2 A1 C1 _ rfl rfl j9 b9.out HB.2
 rw[e0];have HE:=J2 k6 k7;clear e0 k6 k7;obtain⟨A9,C9,a1,_⟩:=b4.out.box;have b2:=a1.cl 2;have f2:=a1.free 2;clear a1;go_wp2_with fail;refine(To pb l1.length 64 w1 j0).mono ?_;rintro e w2 ⟨rfl,rfl⟩;clear b2 f2;go_upto_region 9 with fail;obtain⟨A1,C1,a6,c8,P,r1,r2,r3,r4,r5⟩:=b4.out.box;have b7:=b4.out.low;have c9:=b4.out.lpb;have b8:Value.ownBlock (.slice A1 l1.length C1)≠some cb:=fun e=>by have:=(aD r1 e).1;omega
 have d7:Value.ownBlock (.slice A1 l1.length C1)≠some rb:=fun e=>by have:=(aD r1 e).1;omega
 have d8:Value.ownBlock (.slice A1 l1.length C1)≠some pb:=fun e=>by have:=(aD r1 e).1;omega
 have HC:=oH (show∀wn,aa (fun i=>Value.ownBlock (.slice A1 l1.length C1)≠some i∧i≠pb) w1 wn→(∃m1,m1≤k1∧PB wn w.heap.size pb p A C (k1) m1)→Calls prog 128 #[.pointer (some ⟨pb,0,none⟩)] wn (fun e w'=>∃u m3,e=.returned u∧m3≤j1∧aa (fun i=>i≠pb) wn w'∧PB w' w.heap.size pb p A C j1 m3∧Tq qh wn 3 x u w') from fun wn hk hn=>by obtain⟨m1,i1,hn⟩:=hn;exact(UR pb p A C (k1) m1 j1 x wn hn.pat hp (R.2.1.moved R.1 (b4.out.kept.trans (hk.mono fun b hb=>⟨fun e=>by have:=(aD r1 e).1;have:=hb.2;omega,hb.1⟩))) i1 h4 HE.1).mono fun e w' h=>by obtain⟨u,m3,e1,e2,e3,e4,e5⟩:=h;exact⟨u,m3,e1,e2,e3,hn.moved ⟨e3,e4⟩,e5⟩);have HV:=oH (fun wn (hk:aa (fun i=>Value.ownBlock (.slice A1 l1.length C1)≠some i∧i≠pb) w1 wn)=>show wn.cell? ⟨cb,2,none⟩=some (.slice A1 l1.length C1) from(a6.kept hk ⟨b8,by omega⟩).cell 2);have HG:=oH (Uf lK (pb:=pb) (W:=w1) (x:=x) (PS:=(fun b wn=>if b then∃m',m'≤j1∧PB wn w.heap.size pb p A C j1 m' else∃m1,m1≤(k1)∧PB wn w.heap.size pb p A C (k1) m1)) (v:=(.slice A1 l1.length C1)) (by omega) r1 d8 fun b wa wb hk hP=>by cases b<;>(obtain⟨m2,a7,hP⟩:=hP;exact⟨m2,a7,hP.kept hk fun i hi e=>by have:=(aD r1 e).1;omega⟩));have o:=J9 r1 (show(if false=true then∃m',m'≤j1∧PB w1.drew w.heap.size pb p A C (j1) m' else∃m1,m1≤k1∧PB w1.drew w.heap.size pb p A C (k1) m1) from by obtain⟨m2,a7,hP⟩:=b4.out.par;exact⟨m2,a7,hP.kept (S:=All) kR.drew fun _ _=>trivial⟩) b8 d7 r2 r3 r4 r5 a6;clear r1 r2 r3 r4 r5 a6 d8 b8 d7;refine hH 7 3 [4,5] (SY w1 (fun i=>i≠pb) (cb+1) 171 3 (.slice A1 l1.length C1) l1.length c8.flatten (fun b wn=>if b then∃m',m'≤j1∧PB wn w.heap.size pb p A C j1 m' else∃m1,m1≤(k1)∧PB wn w.heap.size pb p A C (k1) m1)) [39,40,41] (FY w1 (fun i=>i≠pb) (cb+1) 171 3 (.slice A1 l1.length C1) l1.length c8.flatten Up (Tq qh w1 3 x) 40 39) (fun i=>if i=3 then some (fun u=>∃s v n,u=.agg #[.string s,v,.int .i64 n]) else if i=4 then some Oa else if i=5 then some (NT l1.length) else none) (fun _=>false) (fun _ _=>False) (by kernel_rfl) (by kernel_rfl) (by kernel_rfl) (by kernel_rfl) (VJ _ _ _) (by kernel_rfl) (by decide) (SY.first o.1 o.2.1) (fun _ _ _ h=>h.elim) ?_;simp only[tK];iterate 3 refine OY (fun b wn hs hp=>by(have q:=HV.out wn hs.1;skip;go_simp;with_reducible rfl)) ?_
 refine Hy (V:=(fun u=>∃s v n,u=.agg #[.string s,v,.int .i64 n])) HG.out (by rfl) (by rfl) (by rfl) rfl (by decide) (fun wn hs=>⟨_,_,by(have q:=HV.out wn hs.1;go_simp<;>with_reducible rfl),(HC.out wn hs.1 hs.2.2).mono fun e w' h=>by obtain⟨u,m3,e1,e2,e3,e4,e5⟩:=h;exact⟨u,e1,(by obtain⟨cs,e6,_,_,v,e7,_⟩:=e5;subst e7;exact⟨_,_,_,e6⟩),e3,⟨m3,e2,e4⟩,e5.early lK hs.1.size⟩⟩) ?_;rintro u ⟨s0,v0,n0,rfl⟩;simp only[PS];refine Tv HG.out (by decide) (by rfl) (by rfl) (by rfl) rfl (by decide) _ rfl (by decide) (fun wn hs=>by(simp only[Up];go_simp<;>with_reducible rfl)) ?_;intro g;simp only[PS];refine Tu HG.out (by decide) (by rfl) (by rfl) (by rfl) rfl (by decide) (by decide) (.tmp 37) 146 rfl iI _ 48 underlying146 IS.1 IS.2.1 IS.2.2.1 IS.2.2.2 rfl (by decide) rfl g rfl (by decide) (fun y w hy=>hy.cells) (by unfold maxLen;omega) (by omega) (by omega) ?_;intro A5 c5;simp only[PS];refine OY (fun b wn hs hp=>by(have q:=HV.out wn hs.1;skip;go_simp;with_reducible rfl)) ?_;refine TE fun wt d9 hF=>?_;have a8:=hF 41 (by simp) _ rfl;unfold FY at a8;rw[ae (by decide),ae (by decide)] at a8;have HT:=oH (show SY _ _ _ _ _ _ _ _ _ _ _ from d9);have HA:=oH a8;clear d9 hF a8;simp only[dK];have Y:=o.2.2.2.2.2.2.2.2.kept HT.1 ⟨o.2.2.1,by omega⟩;have b5:=Y.cl 2;have f5:=Y.free 2;clear Y;go_wp2_with fail;go_roundg f
 ·refine⟨f,j1,l1++[x],rfl,by rw[iQ];show l1.length+1≤_;omega,HE.2,?_⟩;obtain⟨y,wz,q1,q2,q3,q4,q5⟩:=HA.out;have Y:=o.2.2.2.2.2.2.2.2.kept HT.1 ⟨o.2.2.1,by omega⟩;have c4:=Us lK (pb:=pb) (B:=cb+1) (by omega) (by omega) o.1 o.2.2.2.2.1 o.2.2.2.2.2.1 o.2.2.2.2.2.2.1 o.2.2.2.2.2.2.2.1 HT.1 q1 q2 q3 q4 q5;have kc:aa (fun b=>b≠cb) wt (wt.setCell ⟨cb,2,none⟩ (.slice A5 (l1.length+1) c5)):=kR.setCell (.inl fun h=>h rfl) _;have c7:=Y.set 2 (.slice A5 (l1.length+1) c5);simp only[ga] at c7;have J:(l1++[x]).length=l1.length+1:=by simp
  have h5:∃m',m'≤j1∧PB wt w.heap.size pb p A C j1 m':=HT.2.2;have c6:Wp w rb cb pb p A C k (p.txt (k+1)) j1 (l1++[x]) (wt.setCell ⟨cb,2,none⟩ (.slice A5 (l1.length+1) c5)):=by obtain⟨m2,a7,i6⟩:=h5;exact⟨(b4.out.kept.trans (HT.1.mono fun b hb=>⟨fun e=>by have:=(aD o.1 e).1;have:=hb.2;omega,hb.1⟩)).trans (kc.mono fun b hb=>by have:=hb.2;show b≠cb;omega),⟨m2,a7,i6.kept kc fun b hb=>by show b≠cb;omega⟩,(b4.out.res.kept HT.1 ⟨o.2.2.2.1,by omega⟩).kept kc (by show rb≠cb;omega),⟨A5,c5,by rw[J];exact c7,by rw[J];exact c4.keep lK kc fun b h1 h2=>by show b≠cb;omega⟩,⟨b7.1,b7.2.1,by have:=HT.1.size;have:=kc.size;omega⟩,c9⟩
  exact c6
 omega
end
section
theorem Xh:(prog.info? 148).map (fun i=>(i.zero,i.size,i.bytes))=some (some (.agg #[.string ⟨#[]⟩,.slice none 0 0,.slice none 0 0,.int .i64 0]),4,72):=by kernel_rfl
theorem WA (s:ByteArray):TQ s<256∧(TQ s=1→jv s=false):=by
 unfold TQ;cases jv s with
 |true=>exact⟨by simp,fun h=>by simp at h⟩
 |false=>exact⟨by simp only[jL,if_false];split;decide;split<;>decide,fun _=>rfl⟩
theorem Yd {s:ByteArray}{q:Nat}{t:Um}(h:Vu s q=some (some t)):t.beg≤t.fin∧t.kind<256∧(t.kind=1→jv (s.extract t.beg t.fin)=false):=by
 unfold Vu at h;simp only at h;split at h
 ·split at h;·cases h;exact⟨Nat.le_succ _,by show 4<256;decide,fun h=>absurd (show 4=1 from h) (by decide)⟩
  split at h;·cases h
  split at h;·cases h
  cases h;exact⟨Nat.le_add_right _ _,(WA _).1,(WA _).2⟩
 cases h
theorem Vz {s:ByteArray}(o:Ab s=true):∀ {f q:Nat} {l:List Um},Tt s f q=some l→∀t∈l,(t.beg≤t.fin∧t.fin≤s.size∧t.kind<256)∧(t.kind=1→jv (s.extract t.beg t.fin)=false)
 |0,_,_,h=>by cases h
 |f+1,q,l,h=>by(
 rw[Tt] at h;split at h;·cases h
 ·cases h;intro t j;cases j
 rename_i t0 C;cases hm:Tt s f t0.fin with
 |none=>rw[hm] at h;cases h
 |some r=>
  rw[hm] at h;cases h;intro t j;rcases fX.1 j with rfl|j
  ·have:=Yd C
   exact⟨⟨this.1,Xn o C,this.2.1⟩,this.2.2⟩
  exact Vz o hm t j)
theorem Yh {s:ByteArray}{l:List Um}(C:s.size≤65536)(j:Ab s=true)(h:Tt s (s.size+1) 0=some l):(cr.mk s l).Ok:=
 ⟨C,by have:=UW h;show l.length≤_;omega,fun t o=>(Vz j h t o).1,j,fun t o=>(Vz j h t o).2⟩
theorem VH {p:cr}{f k:Nat}{l c:List cD}(h:TT p (f+1) k l=some c):
 (¬k<p.l.length∧c=l)∨(k<p.l.length∧p.txt k=YH∧l.length<64∧∃x j,Vf p k=some (x,j)∧TT p f j (l++[x])=some c):=by
 rw[TT] at h;split at h
 ·rename_i o
  split at h
  ·rename_i C;refine .inr ⟨o,C.1,C.2,?_⟩;cases hi:Vf p k with
   |none=>rw[hi] at h;cases h
   |some y=>rw[hi] at h;exact⟨y.1,y.2,rfl,h⟩
  cases h
 rename_i o;cases h;exact .inl ⟨o,rfl⟩
theorem Wh {s:ByteArray}{q:dN}(h:WD s=some q):s.size≤65536∧Ab s=true∧∃l j,Tt s (s.size+1) 0=some l∧TT ⟨s,l⟩ (l.length+1) 0 []=some j∧q=⟨[],j⟩:=by
 unfold WD at h;split at h;·(
 rename_i C;refine⟨C.1,C.2,?_⟩;cases I:Tt s (s.size+1) 0 with
 |none=>rw[I] at h;cases h
 |some l=>
  rw[I] at h;simp only[Option.bind_eq_bind,Option.bind_some] at h;cases o:TT ⟨s,l⟩ (l.length+1) 0 [] with
  |none=>rw[o] at h;cases h
  |some j=>rw[o] at h;cases h;exact⟨l,j,rfl,o,rfl⟩)
 cases h
theorem VL (j o C:Addr)(w:World):
 CallsD prog 75 #[.pointer (some j),.pointer (some o),.pointer (some C)] .returning w fun e I J=>e=.returned (.tuple #[])∧I=.returning∧J=w:=by
 refine callsD_of_wpS func75 rfl fun R cs hu=>?_;apply wpS_seq;apply wpS_region;simp[wpOpsS,go_sem,recoverD,hu,ntmps75,Exit.thenS];apply wpS_seq;apply wpS_region;simp[wpOpsS,go_sem,Exit.thenS];refine wpS_cond (t:=false) (by simp[Act.eval,Array.replicate]) ?_;simp only[jL,if_false];refine wpS_of_wp (wp_skip ?_);cases R;simp_all [bodyPostS,results,Tryz.results75]
theorem gz.keepLow {w j:World}(h:gz w)(k:aa (fun b=>b<w.heap.size) w j):gz j:=
 ⟨fun i hi=>k.cell (p:=⟨4,i,none⟩) (jy _ _ (h.1 i hi)) (h.1 i hi),fun i hi=>k.cell (p:=⟨3,i,none⟩) (jy _ _ (h.2 i hi)) (h.2 i hi)⟩
structure Xz (w:World)(rb pb:Nat)(p:cr)(A:Option Addr)(C k:Nat)(l:List cD)(W:World):Prop where
 kept:aa (fun b=>b<w.heap.size) w W
 par:∃m,m≤k∧PB W (pb+1) pb p A C k m
 box:∃A1 C1,al W rb 81 #[.slice none 0 0,.slice A1 l.length C1]∧dR 4 148 uA (pb+1) W (.slice A1 l.length C1) l
 z1:al W (rb+1) 3 #[.int .i64 0]
 z2:al W (rb+1+1) 41 #[.int .i64 0]
 low:w.heap.size≤rb∧rb+1+1<pb
 tk:WG (fun b=>rb+1+1<b∧b<pb) W (.slice A p.l.length C) p.l
section
variable {w W W':World} {rb pb:Nat} {p:cr} {A:Option Addr} {C k k' m':Nat} {l:List cD}
theorem Xz.moved (h:Xz w rb pb p A C k l W)(hm:wi pb p A C k' m' W W')(o:m'≤k'):Xz w rb pb p A C k' l W':=by have I:=h.low;obtain⟨m,_,J⟩:=h.par;obtain⟨R,Y,j,hr⟩:=h.box;exact⟨h.kept.trans (hm.1.mono fun b j=>by show b≠pb;omega),⟨m',o,J.moved hm⟩,⟨R,Y,j.kept hm.1 (by show rb≠pb;omega),hr.keep nj hm.1 fun b h1 h2=>by show b≠pb;omega⟩,h.z1.kept hm.1 (by show rb+1≠pb;omega),h.z2.kept hm.1 (by show rb+1+1≠pb;omega),I,cu.keep (hm.1.mono fun b j=>by show b≠pb;omega) h.tk⟩
theorem Xz.all (h:Xz w rb pb p A C k l W)(j:aa All W W'):Xz w rb pb p A C k l W':=by obtain⟨m,hm,o⟩:=h.par;exact h.moved ⟨j.all,o.pat.keep j⟩ hm
end
def Vc (q:dN)(w:World)(e:Ending)(j:World):Prop:=aa All w j∧∃v,e=.returned (.tuple #[v,.int .i64 0,.int .i64 0])∧BF (fun b=>w.heap.size≤b∧b<j.heap.size) j v q
theorem WO (R:Ending→World→Prop)(j:Act)(wn:World)(I J Y:Nat)(v0 v1:Value)(h4:al wn I 81 #[v0,v1])(h5:al wn J 3 #[.int .i64 0])(h6:al wn Y 41 #[.int .i64 0])
 (hd:j.defers=[{target:=.fn (.func 75) #[.pointer (some ⟨I,0,none⟩),.pointer (some ⟨J,0,none⟩),.pointer (some ⟨Y,0,none⟩)],args:=#[]}])
 (t4:j.tmps[2]? =some (.pointer (some ⟨I,0,none⟩))) (t5:j.tmps[3]? =some (.pointer (some ⟨J,0,none⟩))) (t6:j.tmps[4]? =some (.pointer (some ⟨Y,0,none⟩)))
 (o:R (.returned (.tuple #[.agg #[v0,v1],.int .i64 0,.int .i64 0])) wn):bodyPostD prog Tryz.f38 R .ret j wn:=by
 show Leaves prog Tryz.f38 j.tmps R j.defers .returning wn;rw[hd];refine leaves_cons (f:=75) (args:=#[.pointer (some ⟨I,0,none⟩),.pointer (some ⟨J,0,none⟩),.pointer (some ⟨Y,0,none⟩)]) (by simp) (by simp[go_sem]) ?_;refine(VL _ _ _ wn).mono ?_;rintro e u' a1 ⟨rfl,rfl,rfl⟩;have r0:=h4.cl 0;have r1:=h4.cl 1;have r5:=h5.cl 0;have r6:=h6.cl 0;simpa [Leaves,settle,results,Tryz.results38,go_sem,t4,t5,t6,r0,r1,r5,r6] using o
theorem WP (rb pb:Nat)(p:cr)(A:Option Addr)(C k:Nat)(l:List cD)(w W:World)(o:Option Addr)(I:Nat)(a:Act)
 (hd:a.defers=[{target:=.fn (.func 75) #[.pointer (some ⟨rb,0,none⟩),.pointer (some ⟨rb+1,0,none⟩),.pointer (some ⟨rb+1+1,0,none⟩)],args:=#[]}])
 (t4:a.tmps[2]? =some (.pointer (some ⟨rb,0,none⟩))) (t5:a.tmps[3]? =some (.pointer (some ⟨rb+1,0,none⟩))) (t6:a.tmps[4]? =some (.pointer (some ⟨rb+1+1,0,none⟩))) (a6:l.length≤64)
 (J:Xz w rb pb p A C k l W) (j:al W rb 81 #[.slice none 0 0,.slice o l.length I]) (hr:dR 4 148 uA (pb+1) W (.slice o l.length I) l):
 bodyPostD prog Tryz.f38 (Vc ⟨[],l⟩ w) .ret a ((((W.setCell ⟨rb,0,none⟩ (.slice none 0 0)).setCell ⟨rb,1,none⟩ (.slice o l.length I)).setCell ⟨rb+1,0,none⟩ (.int .i64 0)).setCell ⟨rb+1+1,0,none⟩ (.int .i64 0)):=by
 have a1:=J.low;obtain⟨m,hm,hP⟩:=J.par;have a7:=hP.size;have k1:aa (fun b=>b≠rb) W ((W.setCell ⟨rb,0,none⟩ (.slice none 0 0)).setCell ⟨rb,1,none⟩ (.slice o l.length I)):=((kR.setCell (.inl fun h=>h rfl) _).setCell (.inl fun h=>h rfl) _);have b1:=(j.set 0 (.slice none 0 0)).set 1 (.slice o l.length I);have y1:=J.z1.kept k1 (by show rb+1≠rb;omega);have y2:=J.z2.kept k1 (by show rb+1+1≠rb;omega);simp only[ga] at b1;generalize World.setCell _ ⟨rb,1,none⟩ _=W1 at*;have k2:aa (fun b=>b≠rb+1) W1 (W1.setCell ⟨rb+1,0,none⟩ (.int .i64 0)):=kR.setCell (.inl fun h=>h rfl) _;have b2:=b1.kept k2 (by show rb≠rb+1;omega);have y3:=y1.set 0 (.int .i64 0);have y4:=y2.kept k2 (by show rb+1+1≠rb+1;omega);simp only[ga] at y3;generalize World.setCell _ ⟨rb+1,0,none⟩ _=W2 at*;have k3:aa (fun b=>b≠rb+1+1) W2 (W2.setCell ⟨rb+1+1,0,none⟩ (.int .i64 0)):=kR.setCell (.inl fun h=>h rfl) _;have b3:=b2.kept k3 (by show rb≠rb+1+1;omega);have y5:=y3.kept k3 (by show rb+1≠rb+1+1;omega);have y6:=y4.set 0 (.int .i64 0);simp only[ga] at y6;generalize World.setCell _ ⟨rb+1+1,0,none⟩ _=Y at*;have kF:aa (fun b=>b≠rb∧b≠rb+1∧b≠rb+1+1) W Y:=((k1.mono fun b j=>j.1).trans (k2.mono fun b j=>j.2.1)).trans (k3.mono fun b j=>j.2.2);have r2:=(hr.keep nj kF (fun b R h2=>⟨by omega,by omega,by omega⟩)).read (bw:=72) nj (by omega);have kw:aa All w Y:=by have R:aa (fun b=>b<w.heap.size) w Y:=J.kept.trans (kF.mono fun b (j:b<w.heap.size)=>⟨by omega,by omega,by omega⟩);exact⟨R.os,R.output,R.size,fun i hi hS=>R.block i hi hi⟩
 exact WO _ a Y rb (rb+1) (rb+1+1) _ _ b3 y5 y6 hd t4 t5 t6 ⟨kw,_,rfl,_,_,rfl,rx.nil,iX.wide (fun b j=>⟨by omega,j.2⟩) r2⟩
theorem WN (s:ByteArray)(q:dN)(w:World)(hr:WD s=some q)(hm:∀l,Tt s (s.size+1) 0=some l→l.length≤4096)(hl:gz w):
 Calls prog 38 #[.string s] w (Vc q w):=by
 obtain⟨iI,IS⟩:=iH Xh;have k8:∀(fn:Fn) (first cap:Array Value) (w:World),(Instr.makeFunc fn first cap).run prog w=.ok (.func fn first cap) w:=fun _ _ _ _=>rfl;obtain⟨Y,c4,l0,fs,ht,c6,rfl⟩:=Wh hr;obtain⟨p,a6⟩:=eQ (cr.mk s l0);have hp:p.Ok:=by rw[a6];exact Yh Y c4 ht
 have hs:p.s=s:=by rw[a6]
 have d8:p.l=l0:=by rw[a6]
 rw[←a6] at c6;have h4:p.l.length≤4096:=by rw[d8];exact hm l0 ht
 subst hs;subst d8;have a7:=J5 ht c6 hl c4 Y;clear hr ht c6 hl a6 hm c4 Y;obtain⟨W0,R⟩:=eQ (((w.alloc (.cells #[.slice none 0 0,.slice none 0 0] 81)).alloc (.cells #[.int .i64 0] 3)).alloc (.cells #[.int .i64 0] 41));have d9:=aC3 R;have Y:=aD3 R;have g1:=aA2 R;have g2:=aB1 R aE1;have g3:=aB0 R aE2;have H0:=J6 R d9 Y g1 g2 g3;clear R d9 Y g1 g2 g3
 go_enter_defers func38,ntmps38
 go_upto_region 1 with fail;rw[←H0.1];go_wp2_with fail;refine(Xt p.s p.l W0 a7.2.2.2.1 a7.2.2.2.2 a7.1).mono ?_;rintro e w1 ⟨a8,A,C,rfl,b0⟩;have H1:=J5 a8 b0 (H0.2.2.2.1.kept a8 trivial) (H0.2.2.2.2.1.kept a8 trivial) (H0.2.2.2.2.2.kept a8 trivial);clear a8 b0;have u5:=H1.2.2.2.1.cl 0;have y5:=H1.2.2.2.1.free 0;have u6:=H1.2.2.2.2.cl 0;have y6:=H1.2.2.2.2.free 0;go_upto_region 2 with fail;have k2:aa (fun b=>b≠w.heap.size+1∧b≠w.heap.size+1+1) w1 ((w1.setCell ⟨w.heap.size+1,0,none⟩ (.int .i64 0)).setCell ⟨w.heap.size+1+1,0,none⟩ (.int .i64 0)):=(kR.setCell (.inl fun h=>h.1 rfl) _).setCell (.inl fun h=>h.2 rfl) _;have z1:=(H1.2.2.2.1.set 0 (.int .i64 0)).kept ((aa.refl (fun b=>b≠w.heap.size+1+1) _).setCell (p:=⟨w.heap.size+1+1,0,none⟩) (.inl fun h=>h rfl) (.int .i64 0)) (by show w.heap.size+1≠_;omega);have z2:=(H1.2.2.2.2.kept ((aa.refl (fun b=>b≠w.heap.size+1) w1).setCell (p:=⟨w.heap.size+1,0,none⟩) (.inl fun h=>h rfl) (.int .i64 0)) (by show w.heap.size+1+1≠_;omega)).set 0 (.int .i64 0);simp only[ga] at z1 z2;generalize World.setCell _ ⟨w.heap.size+1+1,0,none⟩ _=W2 at*;have j6:=H1.1.size;have j7:=H0.2.2.1;have bR:al W2 w.heap.size 81 #[.slice none 0 0,.slice none 0 0]:=H1.2.2.1.kept k2 ⟨by omega,by omega⟩;have e0:WG (fun b=>w.heap.size+1+1<b∧b<w1.heap.size) W2 (.slice A p.l.length C) p.l:=cu.wide (fun b hb=>⟨by omega,hb.2⟩) (cu.keep (k2.mono fun b hb=>⟨by omega,by omega⟩) H1.2.1);have H2:=J5 k2 bR z1 z2 e0;clear u5 y5 u6 y6;have u6:=z2.cl 0;clear k2 z1 z2 bR e0;go_upto_region 4 with fail;clear u6;go_upto_region 6 with fail;have k3:aa All W2 (W2.alloc (.cells #[.string p.s,.slice A p.l.length C,.int .i64 0,.int .i64 0] 140)):=kR.alloc _;have b3:al (W2.alloc (.cells #[.string p.s,.slice A p.l.length C,.int .i64 0,.int .i64 0] 140)) W2.heap.size 140 #[.string p.s,.slice A p.l.length C,.int .i64 0,.int .i64 0]:=al.new _ _ _;obtain⟨rb,a1⟩:=eQ w.heap.size;obtain⟨pb,b7⟩:=eQ W2.heap.size;have j8:=H2.1.size;have e8:W2.heap.size<(W2.alloc (.cells #[.string p.s,.slice A p.l.length C,.int .i64 0,.int .i64 0] 140)).heap.size:=by simp
 have e9:Xz w rb pb p A C 0 [] (W2.alloc (.cells #[.string p.s,.slice A p.l.length C,.int .i64 0,.int .i64 0] 140)):=by refine⟨(((H0.2.1.trans H1.1).all.trans (H2.1.mono fun b (hb:b<w.heap.size)=>⟨by omega,by omega⟩)).trans k3.all),⟨0,cf _,by rw[b7];exact b3,cu.wide (fun b hb=>⟨by omega,by omega⟩) (cu.keep k3.all H2.2.2.2.2),by omega,by omega,Nat.zero_le _⟩,⟨none,0,by rw[a1];exact H2.2.1.kept k3 trivial,dR.nil⟩,by rw[a1];exact H2.2.2.1.kept k3 trivial,by rw[a1];exact H2.2.2.2.1.kept k3 trivial,⟨by omega,by omega⟩,cu.wide (fun b hb=>⟨by omega,by omega⟩) (cu.keep k3.all H2.2.2.2.2)⟩
 rw[←b7,←a1];generalize W2.alloc _=W3 at*;have H3:=oH e9;have k9:=J2 a1 b7;clear k3 b3 e8 e9 j8 j6 j7 b7 a1;go_loopg [] (p.l.length+1) (fun g wr=>∃(f J:Nat) (j:List cD),g=f∧j.length≤64∧TT p f J j=some fs∧Xz w rb pb p A C J j wr);·exact⟨p.l.length+1,0,[],rfl,Nat.zero_le _,a7.2.1,H3.out⟩
 obtain⟨f,J,j,l2,h0,c7,h3⟩:=hrel;obtain⟨wo,j9⟩:=eQ wr;subst j9;cases f with
 |zero=>cases c7
 |succ f=>
 have HS:=J2 h3 c7;clear h3 c7;obtain⟨m1,l3,h5⟩:=HS.1.par;have b8:=oH h5;clear h5;have bq:=b8.out.box.cl 2;have k6:=b8.out.le;have k7:=hp.len;rcases VH HS.2 with ⟨hk,e1⟩|⟨hk,h6,c8,x,j1,h7,h8⟩
 ·subst e1;have hd:decide ((J:Int)<(p.l.length:Int))=false:=by simpa using hk
  go_upto_region 15 with fail;obtain⟨A1,C1,o,h9⟩:=HS.1.box;obtain⟨c0,c1⟩:=o.c2;have f0:=o.free 0;have f1:=o.free 1;have t5:=HS.1.z1.cl 0;have f5:=HS.1.z1.free 0;have t6:=HS.1.z2.cl 0;have f6:=HS.1.z2.free 0;have HB:=J2 o h9;clear o h9;go_wp2_with fail;exact WP rb pb p A C J fs w wo A1 C1 _ rfl rfl rfl rfl h0 HS.1 HB.1 HB.2
 have hd:decide ((J:Int)<(p.l.length:Int))=true:=by simpa using hk
 have HE:=J3 h7 h8 h6;clear h7 h8 h6;go_wp2_with fail;refine(xt pb p A C J m1 0 wo b8.out.pat hp (by omega)).mono ?_;rintro e w2 ⟨rfl,c9⟩;rw[dj];have l4:((p.txt J).toList==[97,114,114,97,121])=false:=by rw[HE.2.2];kernel_rfl
 have l5:((p.txt J).toList==[102,110])=true:=by rw[HE.2.2];kernel_rfl
 have I:=oH (HS.1.all c9);have k0:=oH (b8.out.kept c9 fun _ _=>trivial);clear c9 bq;obtain⟨A7,C7,i1,_⟩:=I.out.box;have b1:=i1.cl 1;clear i1;go_wp2_with fail;refine(To pb j.length 64 w2 c8).mono ?_;rintro e w3 ⟨rfl,rfl⟩;clear b1;go_upto_region 14 with fail;obtain⟨A1,C1,o,i6,P,r1,r2,r3,r4,r5⟩:=I.out.box;have i7:=I.out.low;have d7:Value.ownBlock (.slice A1 j.length C1)≠some rb:=fun e=>by have:=(aD r1 e).1;omega
 have j0:Value.ownBlock (.slice A1 j.length C1)≠some pb:=fun e=>by have:=(aD r1 e).1;omega
 have hz:pb+1≤w2.heap.size:=k0.out.size;have HC:=oH (show∀wn,aa (fun i=>Value.ownBlock (.slice A1 j.length C1)≠some i∧i≠pb) w2 wn→(∃m1,m1≤J∧PB wn (pb+1) pb p A C (J) m1)→Calls prog 79 #[.pointer (some ⟨pb,0,none⟩)] wn (fun e w'=>∃u m3,e=.returned u∧m3≤j1∧aa (fun i=>i≠pb) wn w'∧PB w' (pb+1) pb p A C j1 m3∧Tq uA wn 4 x u w') from fun wn hk hn=>by obtain⟨m1,k4,hn⟩:=hn;exact(WQ pb p A C (J) m1 j1 x wn hn.pat hp (a7.2.2.1.keepLow (I.out.kept.trans (hk.mono fun b (hb:b<w.heap.size)=>⟨fun e=>by have:=(aD r1 e).1;omega,by omega⟩))) k4 h4 HE.1).mono fun e w' h=>by obtain⟨u,m3,e1,e2,e3,e4,e5⟩:=h;exact⟨u,m3,e1,e2,e3,hn.moved ⟨e3,e4⟩,e5⟩);have HV:=oH (fun wn (hk:aa (fun i=>Value.ownBlock (.slice A1 j.length C1)≠some i∧i≠pb) w2 wn)=>show wn.cell? ⟨rb,1,none⟩=some (.slice A1 j.length C1) from(o.kept hk ⟨d7,by omega⟩).cell 1);have HG:=oH (Uf nj (pb:=pb) (W:=w2) (x:=x) (PS:=(fun b wn=>if b then∃m',m'≤j1∧PB wn (pb+1) pb p A C j1 m' else∃m1,m1≤(J)∧PB wn (pb+1) pb p A C (J) m1)) (v:=(.slice A1 j.length C1)) (by omega) r1 j0 fun b wa wb hk hP=>by cases b<;>(obtain⟨m2,b2,hP⟩:=hP;exact⟨m2,b2,hP.kept hk fun i hi e=>by have:=(aD r1 e).1;omega⟩));have HR:=J8 r1 (show(if false=true then∃m',m'≤j1∧PB w2.drew (pb+1) pb p A C (j1) m' else∃m1,m1≤J∧PB w2.drew (pb+1) pb p A C (J) m1) from by obtain⟨m2,b2,hP⟩:=I.out.par;exact⟨m2,b2,hP.kept (S:=All) kR.drew fun _ _=>trivial⟩) d7 r2 r3 r4 r5 o;clear r1 r2 r3 r4 r5 o j0 d7;refine hH 7 3 [4,5] (SY w2 (fun i=>i≠pb) (pb+1) 148 4 (.slice A1 j.length C1) j.length i6.flatten (fun b wn=>if b then∃m',m'≤j1∧PB wn (pb+1) pb p A C j1 m' else∃m1,m1≤(J)∧PB wn (pb+1) pb p A C (J) m1)) [58,59,60] (FY w2 (fun i=>i≠pb) (pb+1) 148 4 (.slice A1 j.length C1) j.length i6.flatten Up (Tq uA w2 4 x) 59 58) (fun i=>if i=3 then some (fun u=>∃s a v n,u=.agg #[.string s,a,v,.int .i64 n]) else if i=4 then some Oa else if i=5 then some (NT j.length) else none) (fun _=>false) (fun _ _=>False) (by kernel_rfl) (by kernel_rfl) (by kernel_rfl) (by kernel_rfl) (VJ _ _ _) (by kernel_rfl) (by decide) (SY.first HR.1 HR.2.1) (fun _ _ _ h=>h.elim) ?_;simp only[tK];iterate 3 refine OY (fun b wn hs hp=>by(have q:=HV.out wn hs.1;skip;go_simp;with_reducible rfl)) ?_
 refine Hy (V:=(fun u=>∃s a v n,u=.agg #[.string s,a,v,.int .i64 n])) HG.out (by rfl) (by rfl) (by rfl) rfl (by decide) (fun wn hs=>⟨_,_,by(have q:=HV.out wn hs.1;go_simp<;>with_reducible rfl),(HC.out wn hs.1 hs.2.2).mono fun e w' h=>by obtain⟨u,m3,e1,e2,e3,e4,e5⟩:=h;exact⟨u,e1,(by obtain⟨cs,e6,_,_,a,v,e7,_⟩:=e5;subst e7;exact⟨_,_,_,_,e6⟩),e3,⟨m3,e2,e4⟩,e5.early nj hs.1.size⟩⟩) ?_;rintro u ⟨s0,a0,v0,n0,rfl⟩;simp only[PS];refine Tv HG.out (by decide) (by rfl) (by rfl) (by rfl) rfl (by decide) _ rfl (by decide) (fun wn hs=>by(simp only[Up];go_simp<;>with_reducible rfl)) ?_;intro g;simp only[PS];refine Tu HG.out (by decide) (by rfl) (by rfl) (by rfl) rfl (by decide) (by decide) (.tmp 56) 79 rfl iI _ 72 underlying79 IS.1 IS.2.1 IS.2.2.1 IS.2.2.2 rfl (by decide) rfl g rfl (by decide) (fun y w hy=>hy.cells) (by unfold maxLen;omega) (by omega) (by omega) ?_;intro A5 c5;simp only[PS];refine OY (fun b wn hs hp=>by(have q:=HV.out wn hs.1;skip;go_simp;with_reducible rfl)) ?_;refine TE fun wt j2 hF=>?_;have b9:=hF 60 (by simp) _ rfl;unfold FY at b9;rw[ae (by decide),ae (by decide)] at b9;have HT:=oH (show SY _ _ _ _ _ _ _ _ _ _ _ from j2);have HA:=oH b9;clear j2 hF b9;simp only[dK];have b4:=HR.2.2.2.2.2.2.2.kept HT.1 ⟨HR.2.2.1,by omega⟩;have b5:=b4.cl 1;have f5:=b4.free 1;clear b4;go_wp2_with fail;go_roundg f
 ·refine⟨f,j1,j++[x],rfl,by rw[iQ];show j.length+1≤_;omega,HE.2.1,?_⟩;obtain⟨y,wz,q1,q2,q3,q4,q5⟩:=HA.out;have b4:=HR.2.2.2.2.2.2.2.kept HT.1 ⟨HR.2.2.1,by omega⟩;have j3:=Us nj (pb:=pb) (B:=pb+1) (by omega) (by omega) HR.1 HR.2.2.2.1 HR.2.2.2.2.1 HR.2.2.2.2.2.1 HR.2.2.2.2.2.2.1 HT.1 q1 q2 q3 q4 q5;have kc:aa (fun b=>b≠rb) wt (wt.setCell ⟨rb,1,none⟩ (.slice A5 (j.length+1) c5)):=kR.setCell (.inl fun h=>h rfl) _;have j4:=b4.set 1 (.slice A5 (j.length+1) c5);simp only[ga] at j4;have b6:(j++[x]).length=j.length+1:=by simp
  have k5:∃m',m'≤j1∧PB wt (pb+1) pb p A C j1 m':=HT.2.2;have c2:∀b,b≤pb→Value.ownBlock (.slice A1 j.length C1)≠some b:=fun b hb e=>by have:=(aD HR.1 e).1;omega
  have j5:Xz w rb pb p A C j1 (j++[x]) (wt.setCell ⟨rb,1,none⟩ (.slice A5 (j.length+1) c5)):=by obtain⟨m2,b2,c3⟩:=k5;have b0:=cu.keep (kc.mono fun b (hb:rb+1+1<b∧b<pb)=>by show b≠rb;omega) (cu.keep (HT.1.mono fun b (hb:rb+1+1<b∧b<pb)=>⟨c2 b (by omega),by omega⟩) I.out.tk);exact⟨(I.out.kept.trans (HT.1.mono fun b (hb:b<w.heap.size)=>⟨c2 b (by omega),by omega⟩)).trans (kc.mono fun b (hb:b<w.heap.size)=>by show b≠rb;omega),⟨m2,b2,⟨c3.box.kept kc (by show pb≠rb;omega),cu.wide (fun b hb=>⟨by omega,by omega⟩) b0,c3.low,by have:=c3.size;have:=kc.size;omega,c3.le⟩⟩,⟨A5,c5,by rw[b6];exact j4,by rw[b6];exact j3.keep nj kc fun b h1 h2=>by show b≠rb;omega⟩,(I.out.z1.kept HT.1 ⟨c2 _ (by omega),by omega⟩).kept kc (by show rb+1≠rb;omega),(I.out.z2.kept HT.1 ⟨c2 _ (by omega),by omega⟩).kept kc (by show rb+1+1≠rb;omega),i7,b0⟩
  exact j5
 omega
end
def Ws (w:World):Prop:=∃m,w.cell? ⟨0,0,none⟩=some (.int .i64 m)
theorem Ws.keep {w j:World}(h:Ws w)(k:aa All w j):Ws j:=by obtain⟨m,hm⟩:=h;exact⟨m,k.cell (p:=⟨0,0,none⟩) trivial hm⟩
theorem Zn {w j:World}(h:Below w.heap.size w j):aa All w j:=⟨h.os,h.output,h.size,fun k o _=>h.block k o⟩
theorem Zl (w:World)(h:Ws w):Calls prog 68 #[.string Uy,.string ⟨#[10]⟩] w fun e j=>e=.returned (.slice (some ⟨w.heap.size,0,none⟩) 6 6)∧j=w.alloc (.cells (YT.map Value.string).toArray 9):=by obtain⟨m,hm⟩:=h;refine(Tryz.strings_Split Uy ⟨#[10]⟩ m w (by rw[VR.1];decide) hm (by decide)).mono fun e j h=>?_;rw[VR.2.2] at h;exact⟨h.1,by rw[h.2];unfold YT;rw[VR.2.2]⟩
theorem Zj (L o:ByteArray)(ws:List ByteArray)(w:World)(R:L.size≤100)(he:Lib.goFieldsP Zo L=o::ws)(Y:ws.length≤2):Calls prog 69 #[.string L,.func (.func 70) #[] #[]] w fun e j=>∃A,e=.returned (.slice (some ⟨A,0,none⟩) (ws.length+1) (ws.length+1))∧aa All w j∧gB (fun b=>w.heap.size≤b) j (.slice (some ⟨A,0,none⟩) (ws.length+1) (ws.length+1)) (o::ws):=by refine(Tryz.strings_FieldsFunc_runes 70 #[] (enters_of func70 (by kernel_rfl) rfl) Zo L w (by omega) (fun W x hx _=>(Zv x W (by omega)).mono fun e j h=>⟨h.1,0,h.2.symm⟩)).mono fun e j h=>?_;rw[he] at h;obtain⟨A,I,hA,J,C⟩:=h;exact⟨A,I,Zn C,ax.wide (fun b C=>C.1) (YX (l:=o::ws) J (by simp;omega))⟩
def XF (w:World)(e:Ending)(j:World):Prop:=aa All w j∧∃v,e=.returned (.tuple #[v,.int .i64 0,.int .i64 0])∧dJ (fun b=>w.heap.size≤b∧b<j.heap.size) j v Uw
theorem ZJ {α:Type}{n bw:Nat}{E:cO α}{S:Nat→Prop}{w:World}{A:Option Addr}{c:Nat}{x:α}(h:rx n bw E S w (.slice A 1 c) [x]):∃g o cs,A=some ⟨g,o,none⟩∧(∀(j:Nat) u,cs[j]? =some u→w.cell? ⟨g,o+j,none⟩=some u)∧E S w cs x:=by obtain⟨a,cap,C,_,_,_,h⟩:=h;injection C with I R Y;subst I;obtain⟨g,o,cs,e,_,_,J,he⟩:=h 0 x rfl;exact⟨g,o,cs,e,fun j u hu=>by have:=J j u hu;rwa [Nat.zero_mul,dj] at this,he⟩
def ZN (W:World)(v:Value)(wn:World):Prop:=∃j,v=.tuple #[.slice (some ⟨j,0,none⟩) 2 2,.int .i64 0]∧W.heap.size≤j∧al wn j 52 #[U 3#64,U 2#64]
theorem ZN.keep {W wn j:World}{v:Value}(h:ZN W v wn)(k:aa All wn j):ZN W v j:=by obtain⟨o,e,C,I⟩:=h;exact⟨o,e,C,I.kept k trivial⟩
theorem VO (w:World)(hl:gz w)(hm:Ws w):Calls prog 37 #[.string Uy] w (XF w):=by
 obtain⟨W0,a6⟩:=eQ (w.alloc (.cells #[.slice none 0 0,.slice none 0 0,.slice none 0 0,.slice none 0 0,.int .i64 0] 26));have a7:=aC1 a6;have b0:=aA0 a6;have H0:=J5 a6 a7 b0 (hl.keep a7) (hm.keep a7);have j1:(decide ((Uy.size:Int)>65536))=false:=by rw[VR.1];decide
 have j2:=oH hl;clear a6 a7 b0 hl hm;go_enter func37,ntmps37;go_upto_region 1 with fail;rw[show w.alloc (.cells #[.slice none 0 0,.slice none 0 0,.slice none 0 0,.slice none 0 0,.int .i64 0] 26)=W0 from H0.1.symm];go_wp2_with fail;refine(VT Uy W0 VR.2.1).mono ?_;rintro e w1 ⟨rfl,o⟩;have H1:=J4 (H0.2.1.trans o) (H0.2.2.1.kept o trivial) (H0.2.2.2.1.keep o) (H0.2.2.2.2.keep o);have k5:=oH o.size;clear o j1;go_upto_region 8 with fail;have k2:aa All w1 (w1.alloc (.cells #[.slice none 0 0,.slice none 0 0,.slice none 0 0,.slice none 0 0,.int .i64 0,.slice none 0 0] 124)):=kR.alloc _;have b2:al (w1.alloc (.cells #[.slice none 0 0,.slice none 0 0,.slice none 0 0,.slice none 0 0,.int .i64 0,.slice none 0 0] 124)) w1.heap.size 124 #[.slice none 0 0,.slice none 0 0,.slice none 0 0,.slice none 0 0,.int .i64 0,.slice none 0 0]:=al.new _ _ _;have b6:(w1.alloc (.cells #[.slice none 0 0,.slice none 0 0,.slice none 0 0,.slice none 0 0,.int .i64 0,.slice none 0 0] 124)).heap.size=w1.heap.size+1:=by simp
 obtain⟨rd,c0⟩:=eQ w1.heap.size;obtain⟨pb,a8⟩:=eQ w.heap.size;rw[←c0] at b2 b6⊢;rw[←a8];generalize w1.alloc _=W2 at*;have H2:=J6 (H1.1.trans k2) (by rw[a8];exact H1.2.1.kept k2 trivial:al W2 pb 26 #[.slice none 0 0,.slice none 0 0,.slice none 0 0,.slice none 0 0,.int .i64 0]) (H1.2.2.1.keep k2) (H1.2.2.2.keep k2) b2 b6;have d7:pb<rd:=by have I:=H1.2.1.lt;omega
 have c2:=J3 d7 a8 c0;clear k2 b2 b6 d7 a8 c0;go_wp2_with fail;refine(Zl W2 H2.2.2.2.1).mono ?_;rintro e w3 ⟨rfl,e3⟩;have k3:=aC1 e3;have bL:al w3 W2.heap.size 9 (YT.map Value.string).toArray:=by rw[e3];exact al.new _ _ _
 have d8:=aD1 e3;obtain⟨lb,d9⟩:=eQ W2.heap.size;rw[←d9] at bL d8⊢;obtain⟨B,hB⟩:=eQ w3.heap.size;have b4:rd<lb∧lb<B∧B=w3.heap.size:=by have:=H2.2.2.2.2.2;omega
 have h0:Yx B rd w3 (ZI 0) (ZP 0):=⟨by omega,by omega,rfl,⟨by decide,by decide⟩,⟨by decide,by decide,by decide⟩,none,0,none,0,none,0,none,0,H2.2.2.2.2.1.kept k3 trivial,⟨rfl,.inl ⟨rfl,rfl⟩⟩,⟨fun _=>rfl,dR.nil⟩,⟨fun _=>rfl,dR.nil⟩,⟨fun _=>rfl,dR.nil⟩⟩;have H3:=J6 (H2.1.trans k3) (H2.2.1.kept k3 trivial) (H2.2.2.1.keep k3) bL h0 b4;clear k3 bL d8 d9 hB b4 h0 e3;go_upto_region 9 with fail;go_loopg [7,29] 6 (fun g s7 j3 wr=>∃(k:Nat) (at_:Int),g=6-k∧k≤6∧s7=.int .i64 at_∧0≤at_∧at_≤1000*k∧j3=.int .i64 k∧aa (fun b=>b<B∧b≠rd) w3 wr∧Yx B rd wr (ZI k) (ZP k));·exact⟨0,0,by omega,Nat.zero_le _,rfl,by omega,by omega,rfl,kR,H3.2.2.2.2.1⟩
 obtain⟨k,at_,k6,k7,rfl,k9,l0,rfl,e6,j⟩:=hrel;obtain⟨R,j4⟩:=eQ wr;subst j4;have Y:=J2 e6 j;clear e6 j;by_cases e7:k<6;·(
 have hd:decide ((k:Int)<6)=true:=by rw[qal];omega
 obtain⟨c6,e8,h6,h7,j5,j6⟩:=Zp k e7;have j7:R.cell? ⟨lb,k,none⟩=some (.string (YT.getD k gR)):=by rw[(H3.2.2.2.1.kept Y.1 ⟨H3.2.2.2.2.2.2.1,by have:=H3.2.2.2.2.2.1;omega⟩).cell k,List.getElem?_toArray,cL,c6];rfl
 have h8:=fun(n:Nat) w4 (A:Option Addr) c (b1:aa All R w4) hv=>ZB B rd k e7 R w4 A n c Y.2 b1 hv;generalize YT.getD k gR=L at*;generalize (Yi k).1=w0 at*;generalize (Yi k).2=ws at*;have HR:=J2 h8 h6;clear h8 c6 h6;go_wp2_with fail;refine(Zj L w0 ws R e8 HR.2 j6).mono ?_;rintro e w4 ⟨A,rfl,b1,j⟩;obtain⟨n,hn⟩:=eQ (ws.length+1);rw[←hn] at j⊢;obtain⟨b9,o9,e9,_,j8⟩:=Bs j (i:=0) rfl;cases e9;have l1:1≤n:=by omega
 have l2:decide ((n:Int)>0)=true:=by simp;omega
 have j9:=TG w0 0 h7;have e0:((((w0[0]' h7).toNat:Nat):Int)==35)=false:=by rw[bE];omega
 have c7:=J2 b1 j;clear b1 j j9 j5 hn j7;go_wp2_with fail;refine(HR.1 n w4 (some ⟨A,0,none⟩) n c7.1 c7.2).mono ?_;rintro e w5 ⟨rfl,h9⟩;have HL:=oH h9;clear h9 j8 e0;have l3:(L.size:Int)≤100:=by omega
 go_wp2_with fail;go_roundg (6-(k+1));·exact⟨k+1,at_+(L.size+1),rfl,by omega,by go_num,by omega,by omega,by go_num,(Y.1.trans c7.1.all).trans HL.1,HL.2⟩
 omega)
 obtain rfl:k=6:=by omega
 have hd:decide ((6:Int)<6)=false:=by decide
 go_upto_region 18 with fail;obtain⟨a1,c1,a3,c3,a4,c4,a5,c5,I,h2,h3,h4,h5⟩:=Y.2.box;obtain⟨fb,fo,k0,e5,b3,b5⟩:=ZJ (h5.2.read (bw:=16) Yb (by decide));subst e5;rw[show k0=[.int .i64 0,.int .i64 1] from b5] at b3;have c8:=b3 0 _ rfl;have i1:=b3 1 _ rfl;rw[dj] at c8;have k1:fo=0:=by rcases h5.2.own with ⟨xs,_,⟨e,_⟩|⟨g,cap,cur,e,_⟩⟩<;>cases e;rfl
 subst k1;have k4:=Yx.pol Y.2.up Y.2.dep Y.2.few h2 h3 h4;change al R rd _ #[.slice a1 2 c1,.slice none 0 0,.slice a3 1 c3,.slice a4 1 c4,.int .i64 8,.slice (some ⟨fb,0,none⟩) 1 c5] at I;have HE:=J7 I h2 h3 h4 c8 i1 h5;clear h2 h3 h4 h5 c8 i1 b3 b5 k4;obtain⟨e0,e1,e2,e3,e4,e5⟩:=I.c6;clear I;go_upto_region 20 with fail;clear e0 e1 e2 e3 e4 e5;have i6:aa (fun b=>b<w.heap.size) w R:=H3.1.all.trans (Y.1.mono fun b (hb:b<w.heap.size)=>by have I:=c2.out;have h2:=H3.2.2.2.2.2;exact⟨by omega,by omega⟩);have i7:=oH i6;clear i6;have HB:=oH (fun wt (C:aa All R wt)=>YN fb c5 wt (j2.out.keepLow (i7.out.trans C.all)) (C.cell (p:=⟨fb,0,none⟩) trivial HE.2.2.2.2.1) (C.cell (p:=⟨fb,1,none⟩) trivial HE.2.2.2.2.2.1));refine R1 16 R [94] (fun _ v wn=>ZN R v wn) (fun i=>if i=10 then some (fun v=>∃ub,v=.tuple #[.slice (some ⟨ub,0,none⟩) 2 2,.int .i64 0]) else none) ?_;iterate 10 refine O3 (fun wn C hp=>by(have qb:=HE.1.kept C trivial;have q0:=qb.cell 0;have q5:=qb.cell 5;simp only[gc] at q0 q5;go_simp;with_reducible rfl)) ?_
 refine O6 (fun wn C hp=>?_) (fun wn C hp=>?_) ?_
 ·go_simp
  refine(HB.out wn C).mono ?_;rintro e wq ⟨rfl,J,hu⟩;exact .inl ⟨rfl,_,rfl,⟨_,rfl⟩,C.trans J,fun t _ v h=>h.keep J,fun d hd _=>by cases hd;exact⟨_,rfl,C.size,hu⟩⟩
 ·obtain⟨e,wq,_,⟨rfl,J,hu⟩,_⟩:=(HB.out wn C) []
  exact⟨_,wq,⟨_,rfl⟩,C.trans J,fun t _ v h=>h.keep J,fun d hd _=>by cases hd;exact⟨_,rfl,C.size,hu⟩⟩
 rintro v ⟨ub,rfl⟩;simp only[PS];iterate 5 refine O0 ?_
 refine aG fun w7 j0 hF=>?_;obtain⟨l4,e9,c9,bU⟩:=hF 94 (by decide) _ rfl;cases e9;simp only[dK];have H7:=J3 j0 bU c9;clear j0 hF;have b7:=HE.1.kept H7.1 trivial;have e1:=b7.cell 1;have f1:=b7.free 1;have b8:=b7.set 1 (.slice (some ⟨ub,0,none⟩) 2 2);simp only[gc,ga] at e1 b8;have k8:aa (fun b=>b≠rd) w7 (w7.setCell ⟨rd,1,none⟩ (.slice (some ⟨ub,0,none⟩) 2 2)):=kR.setCell (.inl fun h=>h rfl) _;have H8:=J2 k8 b8;clear k8 b7 bU c9;go_upto_region 24 with fail;clear e1 f1;generalize w7.setCell _ _=W8 at*;obtain⟨e0,e1,e2,e3,e4⟩:=H8.2.c5;have kp:aa (fun b=>b<B∧b≠rd) w3 W8:=(Y.1.trans H7.1.all).trans (H8.1.mono fun b hb=>hb.2);have bp:=H3.2.1.kept kp (by have I:=c2.out;have h2:=H3.2.2.2.2.2;exact⟨by omega,by omega⟩);obtain⟨t0,t1,t2,t3,t4⟩:=bp.c5;have f0:=bp.free 0;have f1:=bp.free 1;have f2:=bp.free 2;have f3:=bp.free 3;have f4:=bp.free 4;have HP:=J2 kp bp;clear kp bp;go_wp2_with fail;have bF:=((((HP.2.set 0 (.slice a1 2 c1)).set 1 (.slice (some ⟨ub,0,none⟩) 2 2)).set 2 (.slice a3 1 c3)).set 3 (.slice a4 1 c4)).set 4 (.int .i64 8);have kF:=(((((aa.refl (fun b=>b≠pb) W8).setCell (p:=⟨pb,0,none⟩) (.inl fun h=>h rfl) (.slice a1 2 c1)).setCell (p:=⟨pb,1,none⟩) (.inl fun h=>h rfl) (.slice (some ⟨ub,0,none⟩) 2 2)).setCell (p:=⟨pb,2,none⟩) (.inl fun h=>h rfl) (.slice a3 1 c3)).setCell (p:=⟨pb,3,none⟩) (.inl fun h=>h rfl) (.slice a4 1 c4)).setCell (p:=⟨pb,4,none⟩) (.inl fun h=>h rfl) (.int .i64 8);simp only[ga] at bF;clear e0 e1 e2 e3 e4 t0 t1 t2 t3 t4 f0 f1 f2 f3 f4;generalize World.setCell _ ⟨pb,4,none⟩ _=WF at*;have c6:=c2.out;have e8:=H3.2.2.2.2.2;have kA:aa (fun b=>B≤b) R WF:=(H7.1.all.trans (H8.1.mono fun b (hb:B≤b)=>by show b≠rd;omega)).trans (kF.mono fun b (hb:B≤b)=>by show b≠pb;omega);have c9:=H7.2.2;have l5:=Y.2.size;have kU:aa (fun b=>B≤b) w7 WF:=(H8.1.mono fun b (hb:B≤b)=>by show b≠rd;omega).trans (kF.mono fun b (hb:B≤b)=>by show b≠pb;omega);have bU:=H7.2.1.kept kU (by show B≤ub;omega);have r1:=YX (be HE.2.1 kA fun g hg=>(aD HE.2.1 hg).1) (by decide);have r3:=(HE.2.2.1.keep FM kA fun b h _=>h).2.read (bw:=24) FM (by decide);have r4:=(HE.2.2.2.1.keep FM kA fun b h _=>h).2.read (bw:=24) FM (by decide);have hw:∀b,B≤b∧b<WF.heap.size→w.heap.size≤b∧b<WF.heap.size:=fun b hb=>⟨by omega,hb.2⟩;have kw:aa All w WF:=by have I:aa (fun b=>b<w.heap.size) w WF:=((i7.out.trans H7.1.all).trans (H8.1.mono fun b (hb:b<w.heap.size)=>by show b≠rd;omega)).trans (kF.mono fun b (hb:b<w.heap.size)=>by show b≠pb;omega);exact⟨I.os,I.output,I.size,fun i hi _=>I.block i hi hi⟩
 obtain⟨q0,q1,q2,q3,q4⟩:=bF.c5;have hv:dJ (fun b=>w.heap.size≤b∧b<WF.heap.size) WF (.agg #[.slice a1 2 c1,.slice (some ⟨ub,0,none⟩) 2 2,.slice a3 1 c3,.slice a4 1 c4,.int .i64 8]) Uw:=by(
 refine⟨_,_,_,_,rfl,ax.wide hw r1,Sl.of_blk (l:=[3#64,2#64]) bU ⟨by omega,by have:=bU.lt;omega⟩ (by decide) (by decide) (by decide) (fun i x hx=>?_),aX.wide hw r3,aX.wide hw r4,YW (by decide) (by decide)⟩
 match i,hx with
 |0,hx=>cases hx;exact⟨_,rfl,rfl⟩
 |1,hx=>cases hx;exact⟨_,rfl,rfl⟩
 |(i+2),hx=>simp at hx)
 exact bodyPost_ret (v:=.tuple #[.agg #[.slice a1 2 c1,.slice (some ⟨ub,0,none⟩) 2 2,.slice a3 1 c3,.slice a4 1 c4,.int .i64 8],.int .i64 0,.int .i64 0]) (by simp[results,Tryz.results37,go_sem,q0,q1,q2,q3,q4]) rfl ⟨kw,_,rfl,hv⟩
section
open Go.Shelf
def Tryz.lays189_ren:Go.Shelf.Ren:=⟨fun|189=>64|125=>111|257=>110|128=>170|129=>171|294=>161|295=>162|296=>163|297=>164|298=>165|299=>166|216=>167|300=>168|301=>169|328=>215|329=>216|330=>217|331=>218|332=>219|215=>220|343=>241|n=>n,fun|28=>38|3=>3|46=>190|0=>0|51=>246|53=>52|4=>4|183=>241|182=>240|131=>57|5=>5|9=>9|218=>274|222=>278|228=>302|229=>66|n=>n,fun|n=>n⟩
theorem Tryz.lays189:Go.Proofs.Lays.n189 prog Tryz.lays189_ren:= {
 mixed:=by kernel_rfl
 f125:=func111.trans (congrArg some (by kernel_rfl))
 f128:=func170.trans (congrArg some (by kernel_rfl))
 f129:=func171.trans (congrArg some (by kernel_rfl))
 f189:=func64.trans (congrArg some (by kernel_rfl))
 f215:=func220.trans (congrArg some (by kernel_rfl))
 f216:=func167.trans (congrArg some (by kernel_rfl))
 f257:=func110.trans (congrArg some (by kernel_rfl))
 f294:=func161.trans (congrArg some (by kernel_rfl))
 f295:=func162.trans (congrArg some (by kernel_rfl))
 f296:=func163.trans (congrArg some (by kernel_rfl))
 f297:=func164.trans (congrArg some (by kernel_rfl))
 f298:=func165.trans (congrArg some (by kernel_rfl))
 f299:=func166.trans (congrArg some (by kernel_rfl))
 f300:=func168.trans (congrArg some (by kernel_rfl))
 f301:=func169.trans (congrArg some (by kernel_rfl))
 f328:=func215.trans (congrArg some (by kernel_rfl))
 f329:=func216.trans (congrArg some (by kernel_rfl))
 f330:=func217.trans (congrArg some (by kernel_rfl))
 f331:=func218.trans (congrArg some (by kernel_rfl))
 f332:=func219.trans (congrArg some (by kernel_rfl))
 f343:=func241.trans (congrArg some (by kernel_rfl))
 t0:=underlying0
 a0:=Tryz.isAgg0
 z0:=Tryz.sizeOf0
 v0:=Tryz.zeroValue0
 t3:=underlying3
 a3:=Tryz.isAgg3
 z3:=Tryz.sizeOf3
 v3:=Tryz.zeroValue3
 t4:=underlying4
 a4:=Tryz.isAgg4
 z4:=Tryz.sizeOf4
 v4:=Tryz.zeroValue4
 t5:=underlying5
 a5:=Tryz.isAgg5
 z5:=Tryz.sizeOf5
 v5:=Tryz.zeroValue5
 t9:=underlying9
 a9:=Tryz.isAgg9
 z9:=Tryz.sizeOf9
 v9:=Tryz.zeroValue9
 t28:=underlying38
 a28:=Tryz.isAgg38
 z28:=Tryz.sizeOf38
 v28:=Tryz.zeroValue38
 t46:=underlying190
 a46:=Tryz.isAgg190
 z46:=Tryz.sizeOf190
 v46:=Tryz.zeroValue190
 t51:=underlying246
 a51:=Tryz.isAgg246
 z51:=Tryz.sizeOf246
 v51:=Tryz.zeroValue246
 t53:=underlying52
 a53:=Tryz.isAgg52
 z53:=Tryz.sizeOf52
 v53:=Tryz.zeroValue52
 t131:=underlying57
 a131:=Tryz.isAgg57
 z131:=Tryz.sizeOf57
 v131:=Tryz.zeroValue57
 t182:=underlying240
 a182:=Tryz.isAgg240
 z182:=Tryz.sizeOf240
 v182:=Tryz.zeroValue240
 t183:=underlying241
 a183:=Tryz.isAgg241
 z183:=Tryz.sizeOf241
 v183:=Tryz.zeroValue241
 t218:=underlying274
 a218:=Tryz.isAgg274
 z218:=Tryz.sizeOf274
 v218:=Tryz.zeroValue274
 t222:=underlying278
 a222:=Tryz.isAgg278
 z222:=Tryz.sizeOf278
 v222:=Tryz.zeroValue278
 t228:=underlying302
 a228:=Tryz.isAgg302
 z228:=Tryz.sizeOf302
 v228:=Tryz.zeroValue302
 t229:=underlying66
 a229:=Tryz.isAgg66
 z229:=Tryz.sizeOf66
 v229:=Tryz.zeroValue66}
open Go.Sort Go.RowKit in
theorem Tryz.slices_Sort_int (blk off cap:Nat)(zs:List Int)(w:World)(hH:Holds (Value.int .i64) w blk off zs.toArray)(j:blk<w.heap.size)(o:zs.length<4611686018427387904):
 Calls prog 64 #[.slice (some ⟨blk,off,none⟩) zs.length cap] w fun e C=>
  e=.returned (.tuple #[])∧∃n os,C=grow (putRow (Value.int .i64) (Sort.ahead w n) blk off (zs.mergeSort fun x y=>decide (x≤y)).toArray) os:=Any.slices_Sort_int Tryz.lays189 blk off cap zs w hH j o
def Tryz.laysNm215_ren:Go.Shelf.Ren:=⟨fun|15=>63|n=>n,fun|22=>38|3=>3|4=>4|n=>n,fun|n=>n⟩
theorem Tryz.laysNm215:Go.Proofs.Lays2.n15 prog Tryz.laysNm215_ren:= {
 mixed:=by kernel_rfl
 f15:=func63.trans (congrArg some (by kernel_rfl))
 t3:=underlying3
 a3:=Tryz.isAgg3
 z3:=Tryz.sizeOf3
 v3:=Tryz.zeroValue3
 t4:=underlying4
 a4:=Tryz.isAgg4
 z4:=Tryz.sizeOf4
 v4:=Tryz.zeroValue4
 t22:=underlying38
 a22:=Tryz.isAgg38
 z22:=Tryz.sizeOf38
 v22:=Tryz.zeroValue38
 i3:=by kernel_rfl}
open Go.RowKit Go.Lib in
theorem Tryz.slices_Clone_int (b off n c:Nat)(zs:List Int)(w:World)(J:n≤zs.length)(o:n*8≤140737488355328)(R:∀j,j<zs.length→w.cell? ⟨b,off+j,none⟩=some (.int .i64 (zs.getD j 0))):
 Calls prog 63 #[.slice (some ⟨b,off,none⟩) n c] w fun e I=>∃C,e=.returned C∧I.ownsRow w.heap.size 3 1 C n ((zs.take n).map (Value.int .i64))∧C≠.slice none 0 0∧Below w.heap.size w I:=Any.slices_Clone_int Tryz.laysNm215 b off n c zs w J o R
end
theorem CK (S:Nat→Prop)(v:Value)(l:List Int)(w:World)(h:aK S w v l)(h1:1≤l.length):
 Calls prog 63 #[v] w fun e R=>∃g c cur,e=.returned (.slice (some ⟨g,0,none⟩) l.length c)∧aa All w R∧w.heap.size≤g∧al R g 3 cur∧l.length≤c∧c≤maxLen∧cur.size=c*1∧cur.toList.take l.length=l.map (Value.int .i64):=by
 obtain⟨a,cap,rfl,h2,h3,h4,h⟩:=h;obtain⟨b,off,c,rfl,_⟩:=h 0 l[0] (lG (by omega));refine(Tryz.slices_Clone_int b off l.length cap l w (cf _) h4 fun j hj=>?_).mono ?_
 ·obtain⟨b',a7,c',e,_,hc,rfl,_⟩:=h j l[j] (lG hj)
  cases e;rw[hc,iG,lG hj];rfl
 rintro e R ⟨v',rfl,⟨_,o⟩,_,J⟩;rcases o with ⟨_,h0⟩|⟨g,C,cur,rfl,hg,hh,Y,a1,a6,I⟩;·omega
 rw[dZ,Nat.mul_one] at I;exact⟨g,C,cur,rfl,⟨J.os,J.output,J.size,fun k hk _=>J.block k hk⟩,hg,hh,Y,a1,a6,I⟩
def LR (l:List Int):List Int:=l.mergeSort fun x y=>decide (x≤y)
theorem pX (l:List Int):(LR l).Perm l:=List.mergeSort_perm _ _
theorem LI (l:List Int):(LR l).Pairwise (·≤·):=by
 refine(List.pairwise_mergeSort (le:=fun x y:Int=>decide (x≤y)) (fun a b c j o=>?_) (fun a b=>?_) l).imp fun h=>by simpa using h
 ·simp only[qal] at j o⊢;omega
 simp only[Bool.or_eq_true,qal];omega
theorem Hm (g c:Nat)(cur:Array Value)(l:List Int)(w:World)(o:al w g 3 cur)(R:l.length≤c)(Y:c≤maxLen)(h3:cur.size=c*1)(ht:cur.toList.take l.length=l.map (Value.int .i64))(hl:l.length≤1000)(hw:∀x∈l,(Lit.int .i64 x).wf=true):
 Calls prog 64 #[.slice (some ⟨g,0,none⟩) l.length c] w fun e C=>e=.returned (.tuple #[])∧aa (fun b=>b≠g) w C∧aK (fun b=>b=g) C (.slice (some ⟨g,0,none⟩) l.length c) (LR l):=by
 have j:(LR l).length=l.length:=(pX l).length_eq;refine(Tryz.slices_Sort_int g 0 c l w (holds_of_blockI o ht) o.lt (by omega)).mono ?_;rintro e C ⟨rfl,n,os,rfl⟩;refine⟨rfl,kR.grown (grownBy_sortedI _) fun k e=>.inl fun h=>h (by cases e;rfl),?_⟩;have I:=ownsRow_sortedI (n:=n) (os:=os) (base:=0) j (Nat.zero_le g) o R Y h3;rw[←j] at I⊢;refine Sl.of_own I (by omega) (fun k e=>by cases e;rfl) fun i x J=>⟨_,by rw[cL,J];rfl,rfl,hw x ?_⟩;exact(pX l).mem_iff.1 (mG J)
theorem Ho (S R5 R6:Nat→Prop)(kb:Nat)(b:aw)(pl:Nat→Nat)(t:Nat→Int)(x:bz)(a5 a6:Value)(blk n:Nat)(w:World)(hC:rJ S w kb b t)(hG:gY b)(T:mz (bM b) t pl)(C:blk<b.Ng.length)
 (h5:aK R5 w a5 x.args) (h6:aK R6 w a6 x.Nh) (hx:x.Nh.length=x.args.length∧1≤x.Nh.length∧x.Nh.length≤64) (R:∀a∈x.args,0≤a∧a<b.vars) (b1:∀a∈x.Nh,0≤a∧a<b.Ng.length):
 Calls prog 35 #[.pointer (some ⟨kb,0,none⟩),.agg #[.int .u8 x.kind,.int .u8 x.op,.int .i64 x.dst,.int .i64 x.ref,.int .i64 x.Ni,a5,a6,.int .i64 x.num,.int .i64 x.Nj],.agg #[.int .i64 blk,.int .i64 n]] w fun e w'=>e=.returned (.int .i64 (mH b blk x))∧aa All w w':=by
 have Y:=fun wn (C:aa All w wn)=>hC.keep C (fun _ _=>trivial) trivial;have c2:=ah.la h5;have b4:=ah.la h6;have c7:=Jq h6;obtain⟨A5,c5,rfl,u1,u2,u3,_⟩:=h5;obtain⟨A6,c6,rfl,v1,v2,v3,_⟩:=h6;unfold maxLen at u2 v2;obtain⟨c8,e7,b7⟩:=hx;have h0:x.Nh.length≤x.args.length:=by omega
 have h3:x.args.length≤x.Nh.length:=by omega
 obtain⟨W0,a1⟩:=eQ ((w.alloc (.cells #[.int .u8 x.kind,.int .u8 x.op,.int .i64 x.dst,.int .i64 x.ref,.int .i64 x.Ni,.slice A5 x.args.length c5,.slice A6 x.Nh.length c6,.int .i64 x.num,.int .i64 x.Nj] 40)).alloc (.cells #[.int .i64 blk,.int .i64 n] 74));have b8:=aC2 a1;have bX:=aA1 a1;have bA:=aB0 a1 aE1;have x5:=bX.cl 5;have x6:=bX.cl 6;have c9:=CK _ _ _ W0 (b4 W0 b8) e7;have HG:=J6 hG T R b1 c7 c8;have HW:=J8 a1 b8 bX bA Y c2 b4 c9;clear hG T R b1 c7 a1 b8 bX bA Y c2 b4 c9 hC c8;go_enter func35,ntmps35;go_upto_region 1 with fail;rw[←HW.1];go_wp2_with fail;refine HW.2.2.2.2.2.2.2.mono ?_;rintro e w1 ⟨g,c,cur,rfl,d7,hg,hb,q1,q2,q3,q4⟩;have hs:=Hm g c cur x.Nh w1 hb q1 q2 q3 q4 (by omega) HG.2.2.2.2.1;have d8:=J2 d7 hs;unfold maxLen at q2;clear d7 hb q3 q4 hs;go_wp2_with fail;refine d8.2.mono ?_;rintro e w2 ⟨rfl,d9,e0⟩;have b0:aa All W0 w2:=am (d8.1.all.trans (d9.mono fun b (hb:b<W0.heap.size)=>by show b≠g;omega));have b9:=HW.2.1.trans b0;obtain⟨bv,A3,c3,A4,c4,h4,h7,m1,m2,m3,m4⟩:=HW.2.2.2.2.1 w2 b9;obtain⟨pb,po,pv,rfl,_,e1,e2⟩:=bn m3 (mX (k:=blk) (by rw[cS];exact C));have b2:=fun wn (C:aa All w2 wn)=>oP _ _ _ _ _ _ wn (ah.keep C.all e0) (ah.keep C.all e2);obtain⟨PA,pc,rfl,p1,p2,p3,_⟩:=e2;have b3:=(xp (ll:=bM b) (k:=blk) (pX x.Nh) (LI x.Nh)).trans mp.symm;have HF:=oH (show∀wn,aa All w2 wn→wn.cell? ⟨kb,4,none⟩=some (.slice (some ⟨pb,po,none⟩) b.Ng.length c4)∧wn.cell? ⟨w.heap.size+1,0,none⟩=some (.int .i64 blk)∧wn.cell? ⟨pb,po+blk,none⟩=some (.slice PA (di (bM b) (bM b).length blk).length pc) from fun wn C=>
  ⟨(m1.kept C trivial).cell 4,(HW.2.2.2.1.kept (b0.trans C) trivial).cell 0,C.cell trivial e1⟩)
 obtain⟨q,hq⟩:∃q,decide (LR x.Nh=di (bM b) (bM b).length blk)=q:=⟨_,rfl⟩;have e9:(LR x.Nh).length=x.Nh.length:=(pX x.Nh).length_eq;have a7:∀wn,aa All w2 wn→Calls prog 65 #[.slice (some ⟨g,0,none⟩) x.Nh.length c,.slice PA (di (bM b) (bM b).length blk).length pc] wn fun e w'=>e=.returned (.bool q)∧aa All wn w':=fun wn C=>by have:=b2 wn C;rwa [hq] at this
 have HC:=J5 a7 b3 b0 b9 hq;clear b2 a7 b3 b0 b9 hq m1 m2 m3 m4 e1 d9 e0 x5 x6;go_wp2_with fail;refine R0 11 w2 (fun i=>if i=9 then some (·=.bool q) else none) ?_;iterate 9 first|refine O4 HF.out ?_|refine O0 ?_
 refine O5 (v:=.bool q) (fun wn C hp=>⟨_,_,by(skip;go_simp<;>with_reducible rfl),((HC.1 wn C).mono fun e w' h=>⟨h.1,C.trans h.2,fun _ h=>by cases h⟩)⟩) ?_;refine O0 ?_;refine aG fun wt e3 hF=>?_;have HT:=oH e3;clear e3 hF;simp only[dK];cases q with
 |false=>have HN:=oH (wZ fun h=>by have:=HC.2.1.2 h;have h2:=HC.2.2.2.2;rw[bL this] at h2;cases h2);go_wp2_with fail;go_ret;exact⟨by rw[HN.out]<;>rfl,HC.2.2.2.1.trans HT.out⟩
 |true=>
  have HP:=oH (HC.2.1.1 (of_decide_eq_true HC.2.2.2.2));obtain⟨w3,rfl⟩:=eQ wt;have I:=J2 (HC.2.2.1.trans HT.out) (HC.2.2.2.1.trans HT.out);have b7:=HW.2.2.1.kept I.1 trivial;have x5:=b7.cl 5;clear b7;go_wp2_with fail;go_loopg [29] x.args.length (fun gg s wr=>∃k:Nat,k≤x.args.length∧gg=x.args.length-k∧s=.int .i64 k∧aa All w3 wr∧∀(m:Nat) v f,m<k→x.args[m]? =some v→x.Nh[m]? =some f→jl b v f.toNat);·exact⟨0,by omega,by omega,rfl,kR,fun m v f hm=>by omega⟩
  obtain⟨k,C,rfl,rfl,o,J⟩:=hrel;clear x5;have hb:=HW.2.2.1.kept (I.1.trans o) trivial;have x6:=hb.cl 6;clear hb;by_cases e8:k<x.args.length;·(
 obtain⟨v,hv⟩:=eG e8;obtain⟨f,hf⟩:∃f,x.Nh[k]? =some f:=⟨_,lG (by omega)⟩;have c0:=HG.2.2.1 v (mG hv);have e4:=HG.2.2.2.1 f (mG hf);obtain⟨vn,e5⟩:∃vn:Nat,v=vn:=⟨v.toNat,by omega⟩;obtain⟨fn,e6⟩:∃fn:Nat,f=fn:=⟨f.toNat,by omega⟩;rw[e5] at hv c0;rw[e6] at hf e4;obtain⟨b5,o5,y5,rfl,_,h8,rfl,_⟩:=bn (HW.2.2.2.2.2.1 wr (I.2.trans o)) hv;obtain⟨b6,o6,y6,rfl,_,h9,rfl,_⟩:=bn (HW.2.2.2.2.2.2.1 wr (I.2.trans o)) hf;have j:=vU S kb b pl t vn fn wr (HW.2.2.2.2.1 wr (I.2.trans o)) HG.1 HG.2.1 c0.2 (by omega);have HV:=J4 o J hv hf;have i1:k<x.Nh.length:=by omega
 clear o J hv hf e5 e6 c0 e4;by_cases he:jl b vn fn
 ·rw[av he] at j;have HE:=J2 j he;clear j he;go_wp2_with fail;refine HE.1.mono ?_;rintro e w4 ⟨rfl,a8⟩;have c1:=oH a8;clear a8;go_wp2_with fail;go_roundg (x.args.length-(k+1))
  ·refine⟨k+1,by omega,rfl,by go_num,HV.1.trans c1.out,fun m v f hm h1 h2=>?_⟩
   by_cases e:m=k;·subst e;rw[HV.2.2.1] at h1;rw[HV.2.2.2] at h2;cases h1;cases h2;exact HE.2
   exact HV.2.1 m v f (by omega) h1 h2
  omega
 rw[au he] at j;have HE:=J2 j (Cl HP.out HV.2.2.1 HV.2.2.2 (by simpa using he));clear j he;go_wp2_with fail;refine HE.1.mono ?_;rintro e w4 ⟨rfl,a8⟩;have c1:=oH a8;clear a8;go_wp2_with fail;go_ret;exact⟨by rw[HE.2]<;>rfl,(I.2.trans HV.1).trans c1.out⟩)
  obtain rfl:k=x.args.length:=by omega
  have HE:=J2 o (GC HP.out fun m v f h1 h2=>J m v f (lS.1 h1).1 h1 h2);clear o J;go_wp2_with fail;go_ret;exact⟨by rw[HE.2]<;>rfl,I.2.trans HE.1⟩
end Go.Proofs.YtccbbkopmlnkpaaGreatDoor
