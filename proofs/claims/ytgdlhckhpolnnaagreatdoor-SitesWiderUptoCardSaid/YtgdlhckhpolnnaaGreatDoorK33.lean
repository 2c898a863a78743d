/- Part 34 of the proof (its last part says what is proved). No condition. -/
import Derived.Test.YtgdlhckhpolnnaaGreatDoorK32
namespace Go.Proofs.YtgdlhckhpolnnaaGreatDoor
set_option maxRecDepth 100000
set_option maxHeartbeats 8000000
open Go.RowKit Go.Proofs.Tryz
section
def qbl (p:cr):Nat→Nat→List EL→List cD→Option (List EL×List cD)
 |0,_,_,_=>none
 |f+1,k,j,o=>if k<p.l.length then
   (if p.txt k=qfX∧j.length<16∧o.length=0 then do
    let(x,k)←qbY p k
    qbl p f k (j++[x]) o
   else if p.txt k=YH∧o.length<64 then do
    let(x,k)←qdV p k
    qbl p f k j (o++[x])
   else none)
  else some (j,o)
def qcY (s:ByteArray):Option dN:=if s.size≤65536∧Ab s=true then do
    let l←Tt s (s.size+1) 0
    let(j,o)←qbl ⟨s,l⟩ (l.length+1) 0 [] []
    some ⟨j,o⟩
 else none
theorem qgg:(prog.info? 106).map (fun i=>(i.zero,i.size,i.bytes))=some (some (.agg #[.string ⟨#[]⟩,.int .i64 0,.string ⟨#[]⟩,.int .i64 0]),4,48):=by kernel_rfl
theorem qdY {p:cr}{f k:Nat}{o:List EL}{C:List cD}{r:List EL×List cD}(h:qbl p (f+1) k o C=some r):
 (¬k<p.l.length∧r=(o,C))∨(k<p.l.length∧p.txt k=qfX∧o.length<16∧C=[]∧∃x j,qbY p k=some (x,j)∧qbl p f j (o++[x]) C=some r)∨
 (k<p.l.length∧p.txt k=YH∧C.length<64∧∃x j,qdV p k=some (x,j)∧qbl p f j o (C++[x])=some r):=by
 rw[qbl] at h;split at h;·(
 rename_i I;right;split at h
 ·rename_i h1
  obtain⟨⟨x,j⟩,J,R⟩:=Option.bind_eq_some_iff.1 h;exact .inl ⟨I,h1.1,h1.2.1,oD h1.2.2,x,j,J,R⟩
 split at h
 ·rename_i h1
  obtain⟨⟨x,j⟩,J,R⟩:=Option.bind_eq_some_iff.1 h;exact .inr ⟨I,h1.1,h1.2,x,j,J,R⟩
 cases h)
 rename_i I;cases h;exact .inl ⟨I,rfl⟩
theorem qeN {s:ByteArray}{q:dN}(h:qcY s=some q):s.size≤65536∧Ab s=true∧∃l,Tt s (s.size+1) 0=some l∧qbl ⟨s,l⟩ (l.length+1) 0 [] []=some (q.Nd,q.Nf):=by
 unfold qcY at h;split at h;·rename_i j;obtain⟨l,o,C⟩:=Option.bind_eq_some_iff.1 h;obtain⟨⟨I,Y⟩,J,R⟩:=Option.bind_eq_some_iff.1 C;cases R;exact⟨j.1,j.2,l,o,J⟩
 cases h
theorem qdM {p:cr}(j:p.Ok){k k':Nat}{x:EL}(h:qbY p k=some (x,k'))(W w:World):k<k'∧Tq EB W 4 x (.agg #[.string x.name,.int .i64 x.size,.string x.level,.int .i64 x.Nj]) w:=by
 obtain⟨_,_,n,_,h1,C,_,rfl,rfl⟩:=qce h;have o:=We j k;refine⟨by omega,[_,_,_,_],rfl,rfl,?_,rfl,?_,?_,Hn j _,Hn j _⟩
 ·intro u hu
  simp at hu;rcases hu with rfl|rfl|rfl|rfl<;>rfl
 ·show aV (n:Int)
  unfold aV;omega
 show aV ((p.pos k:Nat):Int);unfold aV;omega
theorem qdL {B:Nat}{w w':World}{v:Value}{l:List EL}{S:Nat→Prop}(h:dR 4 106 EB B w v l)(k:aa S w w')(o:∀g,v.ownBlock=some g→S g):dR 4 106 EB B w' v l:=by obtain⟨j,P,h1,C,I,h4,J⟩:=h;exact⟨j,fun _=>False,be h1 k o,C,I,fun _ h=>h.elim,fun i x R=>by obtain⟨cs,Y,he⟩:=J i x R;exact⟨cs,Y,he⟩⟩
structure GQt (w:World)(rb pb:Nat)(p:cr)(A:Option Addr)(C k:Nat)(ars:List EL)(l:List cD)(W:World):Prop where
 kept:aa (fun b=>b<w.heap.size) w W
 par:∃m,m≤k∧PB W (pb+1) pb p A C k m
 box:∃A0 C0 A1 C1,al W rb 69 #[.slice A0 ars.length C0,.slice A1 l.length C1]∧(l=[]→A1=none∧C1=0)∧dR 4 106 EB (pb+1) W (.slice A0 ars.length C0) ars∧dR 4 110 uA (pb+1) W (.slice A1 l.length C1) l
 z1:al W (rb+1) 3 #[.int .i64 0]
 z2:al W (rb+1+1) 33 #[.int .i64 0]
 low:w.heap.size≤rb∧rb+1+1<pb
 tk:WG (fun b=>rb+1+1<b∧b<pb) W (.slice A p.l.length C) p.l
section
variable {w W W':World} {rb pb:Nat} {p:cr} {A:Option Addr} {C k k' m':Nat} {ars:List EL} {l:List cD}
theorem GQt.moved (h:GQt w rb pb p A C k ars l W)(hm:wi pb p A C k' m' W W')(o:m'≤k'):GQt w rb pb p A C k' ars l W':=by have hl:=h.low;obtain⟨m,_,I⟩:=h.par;obtain⟨J,R,Y,C1,j,hz,h0,hr⟩:=h.box;exact⟨h.kept.trans (hm.1.mono fun b j=>by show b≠pb;omega),⟨m',o,I.moved hm⟩,⟨J,R,Y,C1,j.kept hm.1 (by show rb≠pb;omega),hz,h0.keep pH hm.1 fun b h1 h2=>by show b≠pb;omega,hr.keep nj hm.1 fun b h1 h2=>by show b≠pb;omega⟩,h.z1.kept hm.1 (by show rb+1≠pb;omega),h.z2.kept hm.1 (by show rb+1+1≠pb;omega),hl,cu.keep (hm.1.mono fun b j=>by show b≠pb;omega) h.tk⟩
theorem GQt.all (h:GQt w rb pb p A C k ars l W)(j:aa All W W'):GQt w rb pb p A C k ars l W':=by obtain⟨m,hm,o⟩:=h.par;exact h.moved ⟨j.all,o.pat.keep j⟩ hm
end
theorem qeL (rb pb:Nat)(p:cr)(A:Option Addr)(C k:Nat)(ars:List EL)(l:List cD)(w W:World)(o I:Option Addr)(J R:Nat)(a:Act)
 (hd:a.defers=[{target:=.fn (.func 39) #[.pointer (some ⟨rb,0,none⟩),.pointer (some ⟨rb+1,0,none⟩),.pointer (some ⟨rb+1+1,0,none⟩)],args:=#[]}])
 (t4:a.tmps[2]? =some (.pointer (some ⟨rb,0,none⟩))) (t5:a.tmps[3]? =some (.pointer (some ⟨rb+1,0,none⟩))) (t6:a.tmps[4]? =some (.pointer (some ⟨rb+1+1,0,none⟩))) (a6:l.length≤64) (a7:ars.length≤16)
 (Y:GQt w rb pb p A C k ars l W) (j:al W rb 69 #[.slice o ars.length J,.slice I l.length R]) (h0:dR 4 106 EB (pb+1) W (.slice o ars.length J) ars) (hr:dR 4 110 uA (pb+1) W (.slice I l.length R) l):
 bodyPostD prog Tryz.f21 (Vc ⟨ars,l⟩ w) .ret a ((((W.setCell ⟨rb,0,none⟩ (.slice o ars.length J)).setCell ⟨rb,1,none⟩ (.slice I l.length R)).setCell ⟨rb+1,0,none⟩ (.int .i64 0)).setCell ⟨rb+1+1,0,none⟩ (.int .i64 0)):=by
 have a1:=Y.low;obtain⟨m,hm,hP⟩:=Y.par;have a8:=hP.size;have k1:aa (fun b=>b≠rb) W ((W.setCell ⟨rb,0,none⟩ (.slice o ars.length J)).setCell ⟨rb,1,none⟩ (.slice I l.length R)):=((kR.setCell (.inl fun h=>h rfl) _).setCell (.inl fun h=>h rfl) _);have b1:=(j.set 0 (.slice o ars.length J)).set 1 (.slice I l.length R);have y1:=Y.z1.kept k1 (by show rb+1≠rb;omega);have y2:=Y.z2.kept k1 (by show rb+1+1≠rb;omega);simp only[ga] at b1;generalize World.setCell _ ⟨rb,1,none⟩ _=W1 at*;have k2:aa (fun b=>b≠rb+1) W1 (W1.setCell ⟨rb+1,0,none⟩ (.int .i64 0)):=kR.setCell (.inl fun h=>h rfl) _;have b2:=b1.kept k2 (by show rb≠rb+1;omega);have y3:=y1.set 0 (.int .i64 0);have y4:=y2.kept k2 (by show rb+1+1≠rb+1;omega);simp only[ga] at y3;generalize World.setCell _ ⟨rb+1,0,none⟩ _=W2 at*;have k3:aa (fun b=>b≠rb+1+1) W2 (W2.setCell ⟨rb+1+1,0,none⟩ (.int .i64 0)):=kR.setCell (.inl fun h=>h rfl) _;have b3:=b2.kept k3 (by show rb≠rb+1+1;omega);have y5:=y3.kept k3 (by show rb+1≠rb+1+1;omega);have y6:=y4.set 0 (.int .i64 0);simp only[ga] at y6;generalize World.setCell _ ⟨rb+1+1,0,none⟩ _=W3 at*;have kF:aa (fun b=>b≠rb∧b≠rb+1∧b≠rb+1+1) W W3:=((k1.mono fun b j=>j.1).trans (k2.mono fun b j=>j.2.1)).trans (k3.mono fun b j=>j.2.2);have r2:=(hr.keep nj kF (fun b h1 h2=>⟨by omega,by omega,by omega⟩)).read (bw:=72) nj (by omega);have r1:=(h0.keep pH kF (fun b h1 h2=>⟨by omega,by omega,by omega⟩)).read (bw:=48) pH (by omega);have kw:aa All w W3:=by have h1:aa (fun b=>b<w.heap.size) w W3:=Y.kept.trans (kF.mono fun b (j:b<w.heap.size)=>⟨by omega,by omega,by omega⟩);exact⟨h1.os,h1.output,h1.size,fun i hi hS=>h1.block i hi hi⟩
 exact WO _ a W3 rb (rb+1) (rb+1+1) _ _ b3 y5 y6 hd t4 t5 t6 ⟨kw,_,rfl,_,_,rfl,lJ.wide (fun b j=>⟨by omega,j.2⟩) r1,iX.wide (fun b j=>⟨by omega,j.2⟩) r2⟩
theorem qcA (s:ByteArray)(q:dN)(w:World)(hr:qcY s=some q)(hm:∀l,Tt s (s.size+1) 0=some l→l.length≤4096)(hl:gz w):
 Calls prog 21 #[.string s] w (Vc q w):=by
 obtain⟨iI,IS⟩:=iH Xh;obtain⟨iA,j3⟩:=iH qgg;have n5:∀(fn:Fn) (first cap:Array Value) (w:World),(Instr.makeFunc fn first cap).run prog w=.ok (.func fn first cap) w:=fun _ _ _ _=>rfl;obtain⟨c6,j7,l0,ht,j8⟩:=qeN hr;obtain⟨p,d7⟩:=eQ (cr.mk s l0);have hp:p.Ok:=by rw[d7];exact Yh c6 j7 ht
 have hs:p.s=s:=by rw[d7]
 have k7:p.l=l0:=by rw[d7]
 rw[←d7] at j8;have h4:p.l.length≤4096:=by rw[k7];exact hm l0 ht
 subst hs;subst k7;have d8:=J5 ht j8 hl j7 c6;clear hr ht j8 hl d7 hm j7 c6;obtain⟨W0,b8⟩:=eQ (((w.alloc (.cells #[.slice none 0 0,.slice none 0 0] 69)).alloc (.cells #[.int .i64 0] 3)).alloc (.cells #[.int .i64 0] 33));have k8:=aC3 b8;have c6:=aD3 b8;have g1:=aA2 b8;have g2:=aB1 b8 vI;have g3:=zo b8 aE2;have H0:=J6 b8 k8 c6 g1 g2 g3;clear b8 k8 c6 g1 g2 g3
 go_enter_defers func21,ntmps21
 go_upto_region 1 with fail;rw[←H0.1];go_wp2_with fail;refine(Xt p.s p.l W0 d8.2.2.2.1 d8.2.2.2.2 d8.1).mono ?_;rintro e w1 ⟨d9,A,C,rfl,b6⟩;have H1:=J5 d9 b6 (H0.2.2.2.1.kept d9 trivial) (H0.2.2.2.2.1.kept d9 trivial) (H0.2.2.2.2.2.kept d9 trivial);clear d9 b6;have u5:=H1.2.2.2.1.cl 0;have y5:=H1.2.2.2.1.free 0;have u6:=H1.2.2.2.2.cl 0;have y6:=H1.2.2.2.2.free 0;go_upto_region 2 with fail;have k2:aa (fun b=>b≠w.heap.size+1∧b≠w.heap.size+1+1) w1 ((w1.setCell ⟨w.heap.size+1,0,none⟩ (.int .i64 0)).setCell ⟨w.heap.size+1+1,0,none⟩ (.int .i64 0)):=(kR.setCell (.inl fun h=>h.1 rfl) _).setCell (.inl fun h=>h.2 rfl) _;have z1:=(H1.2.2.2.1.set 0 (.int .i64 0)).kept ((aa.refl (fun b=>b≠w.heap.size+1+1) _).setCell (p:=⟨w.heap.size+1+1,0,none⟩) (.inl fun h=>h rfl) (.int .i64 0)) (by show w.heap.size+1≠_;omega);have z2:=(H1.2.2.2.2.kept ((aa.refl (fun b=>b≠w.heap.size+1) w1).setCell (p:=⟨w.heap.size+1,0,none⟩) (.inl fun h=>h rfl) (.int .i64 0)) (by show w.heap.size+1+1≠_;omega)).set 0 (.int .i64 0);simp only[ga] at z1 z2;generalize World.setCell _ ⟨w.heap.size+1+1,0,none⟩ _=W2 at*;have l9:=H1.1.size;have m9:=H0.2.2.1;have bR:al W2 w.heap.size 69 #[.slice none 0 0,.slice none 0 0]:=H1.2.2.1.kept k2 ⟨by omega,by omega⟩;have k9:WG (fun b=>w.heap.size+1+1<b∧b<w1.heap.size) W2 (.slice A p.l.length C) p.l:=cu.wide (fun b hb=>⟨by omega,hb.2⟩) (cu.keep (k2.mono fun b hb=>⟨by omega,by omega⟩) H1.2.1);have H2:=J5 k2 bR z1 z2 k9;clear u5 y5 u6 y6;have u6:=z2.cl 0;clear k2 z1 z2 bR k9;go_upto_region 4 with fail;clear u6;go_upto_region 6 with fail;have k3:aa All W2 (W2.alloc (.cells #[.string p.s,.slice A p.l.length C,.int .i64 0,.int .i64 0] 102)):=kR.alloc _;have b3:al (W2.alloc (.cells #[.string p.s,.slice A p.l.length C,.int .i64 0,.int .i64 0] 102)) W2.heap.size 102 #[.string p.s,.slice A p.l.length C,.int .i64 0,.int .i64 0]:=al.new _ _ _;obtain⟨rb,c7⟩:=eQ w.heap.size;obtain⟨pb,j4⟩:=eQ W2.heap.size;have n1:=H2.1.size;have l2:W2.heap.size<(W2.alloc (.cells #[.string p.s,.slice A p.l.length C,.int .i64 0,.int .i64 0] 102)).heap.size:=by simp
 have l3:GQt w rb pb p A C 0 [] [] (W2.alloc (.cells #[.string p.s,.slice A p.l.length C,.int .i64 0,.int .i64 0] 102)):=by refine⟨(((H0.2.1.trans H1.1).all.trans (H2.1.mono fun b (hb:b<w.heap.size)=>⟨by omega,by omega⟩)).trans k3.all),⟨0,cf _,by rw[j4];exact b3,cu.wide (fun b hb=>⟨by omega,by omega⟩) (cu.keep k3.all H2.2.2.2.2),by omega,by omega,Nat.zero_le _⟩,⟨none,0,none,0,by rw[c7];exact H2.2.1.kept k3 trivial,fun _=>⟨rfl,rfl⟩,dR.nil,dR.nil⟩,by rw[c7];exact H2.2.2.1.kept k3 trivial,by rw[c7];exact H2.2.2.2.1.kept k3 trivial,⟨by omega,by omega⟩,cu.wide (fun b hb=>⟨by omega,by omega⟩) (cu.keep k3.all H2.2.2.2.2)⟩
 rw[←j4,←c7];generalize W2.alloc _=W3 at*;have H3:=oH l3;have n7:=J2 c7 j4;clear k3 b3 l2 l3 n1 l9 m9 j4 c7;go_loopg [] (p.l.length+1) (fun g wr=>∃(f o:Nat) (I:List EL) (J:List cD),g=f∧J.length≤64∧I.length≤16∧qbl p f o I J=some (q.Nd,q.Nf)∧GQt w rb pb p A C o I J wr);·exact⟨p.l.length+1,0,[],[],rfl,Nat.zero_le _,Nat.zero_le _,d8.2.1,H3.out⟩
 obtain⟨f,o,I,J,n8,j5,j6,j9,l4⟩:=hrel;obtain⟨wo,n2⟩:=eQ wr;subst n2;cases f with
 |zero=>cases j9
 |succ f=>
 have HS:=J2 l4 j9;clear l4 j9;obtain⟨m1,n9,l5⟩:=HS.1.par;have c8:=oH l5;clear l5;have bq:=c8.out.box.cl 2;have n4:=c8.out.le;have hlen:=hp.len;rcases qdY HS.2 with ⟨hk,e1⟩|⟨hk,e0,k0,l6,x,R,e8,e9⟩|⟨hk,e0,k4,x,R,e8,e9⟩
 ·injection e1 with e1 e2;subst e1;subst e2;have hd:decide ((o:Int)<(p.l.length:Int))=false:=by simpa using hk
  go_upto_region 15 with fail;obtain⟨A0,C0,A1,C1,Y,_,b7,l7⟩:=HS.1.box;obtain⟨c0,c1⟩:=Y.c2;have f0:=Y.free 0;have f1:=Y.free 1;have t5:=HS.1.z1.cl 0;have f5:=HS.1.z1.free 0;have t6:=HS.1.z2.cl 0;have f6:=HS.1.z2.free 0;have HB:=J3 Y b7 l7;clear Y b7 l7;go_wp2_with fail;exact qeL rb pb p A C o q.Nd q.Nf w wo A0 A1 C0 C1 _ rfl rfl rfl rfl j5 j6 HS.1 HB.1 HB.2.1 HB.2.2
 ·(
 have hd:decide ((o:Int)<(p.l.length:Int))=true:=by simpa using hk
 have HE:=J3 e8 e9 e0;clear e8 e9 e0;go_wp2_with fail;refine(xt pb p A C o m1 0 wo c8.out.pat hp (by omega)).mono ?_;rintro e w2 ⟨rfl,b9⟩;rw[dj];have n3:((p.txt o).toList==[97,114,114,97,121])=true:=by rw[HE.2.2];kernel_rfl
 have j:=oH (HS.1.all b9);have k5:=oH (c8.out.kept b9 fun _ _=>trivial);clear b9 bq;obtain⟨A6,C6,A7,C7,h0,_⟩:=j.out.box;have b1:=h0.cl 0;clear h0;go_wp2_with fail;refine(To pb I.length 16 w2 k0).mono ?_;rintro e w3 ⟨rfl,rfl⟩;clear b1;go_upto_region 11 with fail;obtain⟨A1,C1,A0,C0,Y,h3,⟨h5,P,r1,r2,r3,r4,r5⟩,b7⟩:=j.out.box;have h6:=j.out.low;have c4:Value.ownBlock (.slice A1 I.length C1)≠some rb:=fun e=>by have:=(aD r1 e).1;omega
 have h7:Value.ownBlock (.slice A1 I.length C1)≠some pb:=fun e=>by have:=(aD r1 e).1;omega
 have hz:pb+1≤w2.heap.size:=k5.out.size;have HC:=oH (show∀wn,aa (fun i=>Value.ownBlock (.slice A1 I.length C1)≠some i∧i≠pb) w2 wn→(∃m1,m1≤o∧PB wn (pb+1) pb p A C (o) m1)→Calls prog 42 #[.pointer (some ⟨pb,0,none⟩)] wn (fun e w'=>∃u m3,e=.returned u∧m3≤R∧aa (fun i=>i≠pb) wn w'∧PB w' (pb+1) pb p A C R m3∧Tq EB wn 4 x u w') from fun wn hk hn=>by obtain⟨m1,l8,hn⟩:=hn;exact(qeK pb p A C o m1 R x wn hn.pat hp HE.1).mono fun e w' h=>⟨_,m1,h.1,by have:=(qdM hp HE.1 wn wn).1;omega,h.2.1,hn.moved h.2,(qdM hp HE.1 wn w').2⟩);have HV:=oH (fun wn (hk:aa (fun i=>Value.ownBlock (.slice A1 I.length C1)≠some i∧i≠pb) w2 wn)=>show wn.cell? ⟨rb,0,none⟩=some (.slice A1 I.length C1) from(Y.kept hk ⟨c4,by omega⟩).cell 0);have HG:=oH (Uf pH (pb:=pb) (W:=w2) (x:=x) (PS:=(fun b wn=>if b then∃m',m'≤R∧PB wn (pb+1) pb p A C R m' else∃m1,m1≤(o)∧PB wn (pb+1) pb p A C (o) m1)) (v:=(.slice A1 I.length C1)) (by omega) r1 h7 fun b wa wb hk hP=>by cases b<;>(obtain⟨m2,a6,hP⟩:=hP;exact⟨m2,a6,hP.kept hk fun i hi e=>by have:=(aD r1 e).1;omega⟩));have HR:=J8 r1 (show(if false=true then∃m',m'≤R∧PB w2.drew (pb+1) pb p A C (R) m' else∃m1,m1≤o∧PB w2.drew (pb+1) pb p A C (o) m1) from by obtain⟨m2,a6,hP⟩:=j.out.par;exact⟨m2,a6,hP.kept (S:=All) kR.drew fun _ _=>trivial⟩) c4 r2 r3 r4 r5 Y;have c9:=J2 b7 h3;clear r1 r2 r3 r4 r5 Y h7 c4 b7 h3;refine hH 7 3 [4,5] (SY w2 (fun i=>i≠pb) (pb+1) 106 4 (.slice A1 I.length C1) I.length h5.flatten (fun b wn=>if b then∃m',m'≤R∧PB wn (pb+1) pb p A C R m' else∃m1,m1≤(o)∧PB wn (pb+1) pb p A C (o) m1)) [44,45,46] (FY w2 (fun i=>i≠pb) (pb+1) 106 4 (.slice A1 I.length C1) I.length h5.flatten qbG (Tq EB w2 4 x) 45 44) (fun i=>if i=3 then some (fun u=>∃s a v n,u=.agg #[.string s,a,v,.int .i64 n]) else if i=4 then some Oa else if i=5 then some (NT I.length) else none) (fun _=>false) (fun _ _=>False) (by kernel_rfl) (by kernel_rfl) (by kernel_rfl) (by kernel_rfl) (VJ _ _ _) (by kernel_rfl) (by decide) (SY.first HR.1 HR.2.1) (fun _ _ _ h=>h.elim) ?_;simp only[tK];iterate 3 refine OY (fun b wn hs hp=>by(have q:=HV.out wn hs.1;skip;go_simp;with_reducible rfl)) ?_
 refine Hy (V:=(fun u=>∃s a v n,u=.agg #[.string s,a,v,.int .i64 n])) HG.out (by rfl) (by rfl) (by rfl) rfl (by decide) (fun wn hs=>⟨_,_,by(have q:=HV.out wn hs.1;go_simp<;>with_reducible rfl),(HC.out wn hs.1 hs.2.2).mono fun e w' h=>by obtain⟨u,m3,e1,e2,e3,e4,e5⟩:=h;exact⟨u,e1,(by obtain⟨cs,e6,_,_,e7,_⟩:=e5;subst e7;exact⟨_,_,_,_,e6⟩),e3,⟨m3,e2,e4⟩,e5.early pH hs.1.size⟩⟩) ?_;rintro u ⟨s0,a0,v0,n0,rfl⟩;simp only[PS];refine Tv HG.out (by decide) (by rfl) (by rfl) (by rfl) rfl (by decide) _ rfl (by decide) (fun wn hs=>by(simp only[qbG];go_simp<;>with_reducible rfl)) ?_;intro g;simp only[PS];refine Tu HG.out (by decide) (by rfl) (by rfl) (by rfl) rfl (by decide) (by decide) (.tmp 42) 66 rfl iA _ 48 underlying66 j3.1 j3.2.1 j3.2.2.1 j3.2.2.2 rfl (by decide) rfl g rfl (by decide) (fun y w hy=>hy.cells) (by unfold maxLen;omega) (by omega) (by omega) ?_;intro A5 c5;simp only[PS];refine OY (fun b wn hs hp=>by(have q:=HV.out wn hs.1;skip;go_simp;with_reducible rfl)) ?_;refine TE fun wt h8 hF=>?_;have b0:=hF 46 (by simp) _ rfl;unfold FY at b0;rw[ae (by decide),ae (by decide)] at b0;have HT:=oH (show SY _ _ _ _ _ _ _ _ _ _ _ from h8);have HA:=oH b0;clear h8 hF b0;simp only[dK];have a7:=HR.2.2.2.2.2.2.2.kept HT.1 ⟨HR.2.2.1,by omega⟩;have b5:=a7.cl 0;have f5:=a7.free 0;clear a7;go_wp2_with fail;go_roundg f
 ·refine⟨f,R,I++[x],J,rfl,j5,by rw[iQ];show I.length+1≤_;omega,HE.2.1,?_⟩;obtain⟨y,wz,q1,q2,q3,q4,q5⟩:=HA.out;have a7:=HR.2.2.2.2.2.2.2.kept HT.1 ⟨HR.2.2.1,by omega⟩;have h9:=Us pH (pb:=pb) (B:=pb+1) (by omega) (by omega) HR.1 HR.2.2.2.1 HR.2.2.2.2.1 HR.2.2.2.2.2.1 HR.2.2.2.2.2.2.1 HT.1 q1 q2 q3 q4 q5;have kc:aa (fun b=>b≠rb) wt (wt.setCell ⟨rb,0,none⟩ (.slice A5 (I.length+1) c5)):=kR.setCell (.inl fun h=>h rfl) _;have j0:=a7.set 0 (.slice A5 (I.length+1) c5);simp only[ga] at j0;have a8:(I++[x]).length=I.length+1:=by simp
  have k6:∃m',m'≤R∧PB wt (pb+1) pb p A C R m':=HT.2.2;have b2:∀b,b≤pb→Value.ownBlock (.slice A1 I.length C1)≠some b:=fun b hb e=>by have:=(aD HR.1 e).1;omega
  have j2:GQt w rb pb p A C R (I++[x]) J (wt.setCell ⟨rb,0,none⟩ (.slice A5 (I.length+1) c5)):=by obtain⟨m2,a6,b4⟩:=k6;have b6:=cu.keep (kc.mono fun b (hb:rb+1+1<b∧b<pb)=>by show b≠rb;omega) (cu.keep (HT.1.mono fun b (hb:rb+1+1<b∧b<pb)=>⟨b2 b (by omega),by omega⟩) j.out.tk);exact⟨(j.out.kept.trans (HT.1.mono fun b (hb:b<w.heap.size)=>⟨b2 b (by omega),by omega⟩)).trans (kc.mono fun b (hb:b<w.heap.size)=>by show b≠rb;omega),⟨m2,a6,⟨b4.box.kept kc (by show pb≠rb;omega),cu.wide (fun b hb=>⟨by omega,by omega⟩) b6,b4.low,by have:=b4.size;have:=kc.size;omega,b4.le⟩⟩,⟨A5,c5,A0,C0,by rw[a8];exact j0,c9.2,by rw[a8];exact h9.keep pH kc fun b h1 h2=>by show b≠rb;omega,by obtain⟨z1,z2⟩:=c9.2 l6;subst z1;subst z2;subst l6;exact dR.nil⟩,(j.out.z1.kept HT.1 ⟨b2 _ (by omega),by omega⟩).kept kc (by show rb+1≠rb;omega),(j.out.z2.kept HT.1 ⟨b2 _ (by omega),by omega⟩).kept kc (by show rb+1+1≠rb;omega),h6,b6⟩
  exact j2
 omega)
 have hd:decide ((o:Int)<(p.l.length:Int))=true:=by simpa using hk
 have HE:=J3 e8 e9 e0;clear e8 e9 e0;go_wp2_with fail;refine(xt pb p A C o m1 0 wo c8.out.pat hp (by omega)).mono ?_;rintro e w2 ⟨rfl,b9⟩;rw[dj];have n3:((p.txt o).toList==[97,114,114,97,121])=false:=by rw[HE.2.2];kernel_rfl
 have o0:((p.txt o).toList==[102,110])=true:=by rw[HE.2.2];kernel_rfl
 have j:=oH (HS.1.all b9);have k5:=oH (c8.out.kept b9 fun _ _=>trivial);clear b9 bq;obtain⟨A6,C6,A7,C7,h0,_⟩:=j.out.box;have b1:=h0.cl 1;clear h0;go_wp2_with fail;refine(To pb J.length 64 w2 k4).mono ?_;rintro e w3 ⟨rfl,rfl⟩;clear b1;go_upto_region 14 with fail;obtain⟨A0,C0,A1,C1,Y,h3,b7,h5,P,r1,r2,r3,r4,r5⟩:=j.out.box;have h6:=j.out.low;have c4:Value.ownBlock (.slice A1 J.length C1)≠some rb:=fun e=>by have:=(aD r1 e).1;omega
 have h7:Value.ownBlock (.slice A1 J.length C1)≠some pb:=fun e=>by have:=(aD r1 e).1;omega
 have hz:pb+1≤w2.heap.size:=k5.out.size;have HC:=oH (show∀wn,aa (fun i=>Value.ownBlock (.slice A1 J.length C1)≠some i∧i≠pb) w2 wn→(∃m1,m1≤o∧PB wn (pb+1) pb p A C (o) m1)→Calls prog 43 #[.pointer (some ⟨pb,0,none⟩)] wn (fun e w'=>∃u m3,e=.returned u∧m3≤R∧aa (fun i=>i≠pb) wn w'∧PB w' (pb+1) pb p A C R m3∧Tq uA wn 4 x u w') from fun wn hk hn=>by obtain⟨m1,l8,hn⟩:=hn;exact(qeM pb p A C (o) m1 R x wn hn.pat hp (d8.2.2.1.keepLow (j.out.kept.trans (hk.mono fun b (hb:b<w.heap.size)=>⟨fun e=>by have:=(aD r1 e).1;omega,by omega⟩))) l8 h4 HE.1).mono fun e w' h=>by obtain⟨u,m3,e1,e2,e3,e4,e5⟩:=h;exact⟨u,m3,e1,e2,e3,hn.moved ⟨e3,e4⟩,e5⟩);have HV:=oH (fun wn (hk:aa (fun i=>Value.ownBlock (.slice A1 J.length C1)≠some i∧i≠pb) w2 wn)=>show wn.cell? ⟨rb,1,none⟩=some (.slice A1 J.length C1) from(Y.kept hk ⟨c4,by omega⟩).cell 1);have HG:=oH (Uf nj (pb:=pb) (W:=w2) (x:=x) (PS:=(fun b wn=>if b then∃m',m'≤R∧PB wn (pb+1) pb p A C R m' else∃m1,m1≤(o)∧PB wn (pb+1) pb p A C (o) m1)) (v:=(.slice A1 J.length C1)) (by omega) r1 h7 fun b wa wb hk hP=>by cases b<;>(obtain⟨m2,a6,hP⟩:=hP;exact⟨m2,a6,hP.kept hk fun i hi e=>by have:=(aD r1 e).1;omega⟩));have HR:=J8 r1 (show(if false=true then∃m',m'≤R∧PB w2.drew (pb+1) pb p A C (R) m' else∃m1,m1≤o∧PB w2.drew (pb+1) pb p A C (o) m1) from by obtain⟨m2,a6,hP⟩:=j.out.par;exact⟨m2,a6,hP.kept (S:=All) kR.drew fun _ _=>trivial⟩) c4 r2 r3 r4 r5 Y;have c9:=J2 b7 h3;clear r1 r2 r3 r4 r5 Y h7 c4 b7 h3;refine hH 7 3 [4,5] (SY w2 (fun i=>i≠pb) (pb+1) 110 4 (.slice A1 J.length C1) J.length h5.flatten (fun b wn=>if b then∃m',m'≤R∧PB wn (pb+1) pb p A C R m' else∃m1,m1≤(o)∧PB wn (pb+1) pb p A C (o) m1)) [58,59,60] (FY w2 (fun i=>i≠pb) (pb+1) 110 4 (.slice A1 J.length C1) J.length h5.flatten qbG (Tq uA w2 4 x) 59 58) (fun i=>if i=3 then some (fun u=>∃s a v n,u=.agg #[.string s,a,v,.int .i64 n]) else if i=4 then some Oa else if i=5 then some (NT J.length) else none) (fun _=>false) (fun _ _=>False) (by kernel_rfl) (by kernel_rfl) (by kernel_rfl) (by kernel_rfl) (VJ _ _ _) (by kernel_rfl) (by decide) (SY.first HR.1 HR.2.1) (fun _ _ _ h=>h.elim) ?_;simp only[tK];iterate 3 refine OY (fun b wn hs hp=>by(have q:=HV.out wn hs.1;skip;go_simp;with_reducible rfl)) ?_
 refine Hy (V:=(fun u=>∃s a v n,u=.agg #[.string s,a,v,.int .i64 n])) HG.out (by rfl) (by rfl) (by rfl) rfl (by decide) (fun wn hs=>⟨_,_,by(have q:=HV.out wn hs.1;go_simp<;>with_reducible rfl),(HC.out wn hs.1 hs.2.2).mono fun e w' h=>by obtain⟨u,m3,e1,e2,e3,e4,e5⟩:=h;exact⟨u,e1,(by obtain⟨cs,e6,_,_,a,v,e7,_⟩:=e5;subst e7;exact⟨_,_,_,_,e6⟩),e3,⟨m3,e2,e4⟩,e5.early nj hs.1.size⟩⟩) ?_;rintro u ⟨s0,a0,v0,n0,rfl⟩;simp only[PS];refine Tv HG.out (by decide) (by rfl) (by rfl) (by rfl) rfl (by decide) _ rfl (by decide) (fun wn hs=>by(simp only[qbG];go_simp<;>with_reducible rfl)) ?_;intro g;simp only[PS];refine Tu HG.out (by decide) (by rfl) (by rfl) (by rfl) rfl (by decide) (by decide) (.tmp 56) 67 rfl iI _ 72 underlying67 IS.1 IS.2.1 IS.2.2.1 IS.2.2.2 rfl (by decide) rfl g rfl (by decide) (fun y w hy=>hy.cells) (by unfold maxLen;omega) (by omega) (by omega) ?_;intro A5 c5;simp only[PS];refine OY (fun b wn hs hp=>by(have q:=HV.out wn hs.1;skip;go_simp;with_reducible rfl)) ?_;refine TE fun wt h8 hF=>?_;have b0:=hF 60 (by simp) _ rfl;unfold FY at b0;rw[ae (by decide),ae (by decide)] at b0;have HT:=oH (show SY _ _ _ _ _ _ _ _ _ _ _ from h8);have HA:=oH b0;clear h8 hF b0;simp only[dK];have a7:=HR.2.2.2.2.2.2.2.kept HT.1 ⟨HR.2.2.1,by omega⟩;have b5:=a7.cl 1;have f5:=a7.free 1;clear a7;go_wp2_with fail;go_roundg f
 ·refine⟨f,R,I,J++[x],rfl,by rw[iQ];show J.length+1≤_;omega,j6,HE.2.1,?_⟩;obtain⟨y,wz,q1,q2,q3,q4,q5⟩:=HA.out;have a7:=HR.2.2.2.2.2.2.2.kept HT.1 ⟨HR.2.2.1,by omega⟩;have h9:=Us nj (pb:=pb) (B:=pb+1) (by omega) (by omega) HR.1 HR.2.2.2.1 HR.2.2.2.2.1 HR.2.2.2.2.2.1 HR.2.2.2.2.2.2.1 HT.1 q1 q2 q3 q4 q5;have kc:aa (fun b=>b≠rb) wt (wt.setCell ⟨rb,1,none⟩ (.slice A5 (J.length+1) c5)):=kR.setCell (.inl fun h=>h rfl) _;have j0:=a7.set 1 (.slice A5 (J.length+1) c5);simp only[ga] at j0;have a8:(J++[x]).length=J.length+1:=by simp
  have k6:∃m',m'≤R∧PB wt (pb+1) pb p A C R m':=HT.2.2;have b2:∀b,b≤pb→Value.ownBlock (.slice A1 J.length C1)≠some b:=fun b hb e=>by have:=(aD HR.1 e).1;omega
  have j2:GQt w rb pb p A C R I (J++[x]) (wt.setCell ⟨rb,1,none⟩ (.slice A5 (J.length+1) c5)):=by obtain⟨m2,a6,b4⟩:=k6;have b6:=cu.keep (kc.mono fun b (hb:rb+1+1<b∧b<pb)=>by show b≠rb;omega) (cu.keep (HT.1.mono fun b (hb:rb+1+1<b∧b<pb)=>⟨b2 b (by omega),by omega⟩) j.out.tk);exact⟨(j.out.kept.trans (HT.1.mono fun b (hb:b<w.heap.size)=>⟨b2 b (by omega),by omega⟩)).trans (kc.mono fun b (hb:b<w.heap.size)=>by show b≠rb;omega),⟨m2,a6,⟨b4.box.kept kc (by show pb≠rb;omega),cu.wide (fun b hb=>⟨by omega,by omega⟩) b6,b4.low,by have:=b4.size;have:=kc.size;omega,b4.le⟩⟩,⟨A0,C0,A5,c5,by rw[a8];exact j0,fun e=>by simp at e,qdL (qdL c9.1 HT.1 fun g hg=>by obtain⟨xs,ho⟩:=c9.1.own;exact⟨qca ho HR.1 (by decide) hg,by have:=(aD ho hg).1;omega⟩) kc fun g hg=>by obtain⟨xs,ho⟩:=c9.1.own;have:=(aD ho hg).1;show g≠rb;omega,by rw[a8];exact h9.keep nj kc fun b h1 h2=>by show b≠rb;omega⟩,(j.out.z1.kept HT.1 ⟨b2 _ (by omega),by omega⟩).kept kc (by show rb+1≠rb;omega),(j.out.z2.kept HT.1 ⟨b2 _ (by omega),by omega⟩).kept kc (by show rb+1+1≠rb;omega),h6,b6⟩
  exact j2
 omega
end
def ex4:ByteArray:=bs [97,114,114,97,121,32,116,32,52,32,108,111,119,32,102,110,32,109,97,105,110,40,41,32,123,32,97,58,32,120,32,61,32,105,110,112,117,116,32,107,101,121,32,121,32,61,32,100,105,118,32,120,32,120,32,122,32,61,32,99,111,110,115,116,32,50,32,117,32,61,32,100,105,118,32,120,32,122,32,105,32,61,32,119,114,97,112,32,116,32,120,32,118,32,61,32,108,111,97,100,32,116,32,105,32,114,101,116,117,114,110,32,118,32,125]
def qcj:dN:=(qcY ex4).getD ⟨[],[]⟩
def qaR:aE:=qV qbq qcj
theorem qei:qcY ex4=some qcj:=by kernel_rfl
theorem qhM:∀l,Tt ex4 (ex4.size+1) 0=some l→l.length≤4096:=of_decide_eq_true (by kernel_rfl)
theorem qhs:fV qcj:=of_decide_eq_true (by kernel_rfl)
theorem qgw:BG qbq qcj:=of_decide_eq_true (by kernel_rfl)
theorem qii:dD qbq:=of_decide_eq_true (by kernel_rfl)
theorem qdm:bJ qbq qaR:=of_decide_eq_true (by kernel_rfl)
theorem qjb:oK qbq qaR=(0,0,0):=by rw[nc qdm,Uc (by kernel_rfl)];kernel_rfl
theorem qiI:rK qaR:=Vt (by kernel_rfl)
theorem sm4:lY qaR:=Xs (by kernel_rfl)
theorem qij:kj qbq:=by
 constructor;·exact of_decide_eq_true (by kernel_rfl)
 ·exact of_decide_eq_true (by kernel_rfl)
 exact of_decide_eq_true (by kernel_rfl)
theorem qgG:qaw qaR=[⟨0,0,1,20,0⟩]:=by kernel_rfl
namespace Q
abbrev LM (w:World):Prop:=gz w∧Ws w
theorem LM.keep {w w':World}(h:LM w)(k:aa All w w'):LM w':=⟨h.1.keep k,h.2.keep k⟩
theorem qik:VFL LM prog 20 [.s (.string qaX)] (·=.tup [.agg (qaY qbq),.s (.int .i64 0),.s (.int .i64 0)]):=qdo fun w hw g vs R j=>by obtain⟨_,_,rfl,h1,rfl⟩:=j.inv;cases h1.of_s;refine(qbT w hw.1 hw.2).mono ?_;rintro e w' ⟨C,v,rfl,I⟩;exact⟨_,rfl,C,qgJ (da.cons (qiM (.of fun b J o=>.inr J) I) (da.cons (.s _) (da.cons (.s _) da.nil)))⟩
theorem qhr {s:ByteArray}{q:dN}(hr:qcY s=some q)(hm:∀l,Tt s (s.size+1) 0=some l→l.length≤4096):VFL gz prog 21 [.s (.string s)] (·=.tup [.agg (qej q),.s (.int .i64 0),.s (.int .i64 0)]):=qdo fun w hw g vs R j=>by obtain⟨_,_,rfl,h1,rfl⟩:=j.inv;cases h1.of_s;refine(qcA s q w hr hm hw).mono ?_;rintro e w' ⟨C,v,rfl,I⟩;exact⟨_,rfl,C,qgJ (da.cons (qil (.of fun b J o=>.inr J) I) (da.cons (.s _) (da.cons (.s _) da.nil)))⟩
theorem qfM {p:aH}{q:dN}(C:qdE p)(I:qdg q)(hr:ot p q):VFL gz prog 22 [.agg (qaY p),.agg (qej q)] (·=.tup [.agg (qax (qV p q)),.any,.s (.int .i64 0)]):=qdo fun w hw g vs j J=>by obtain⟨_,_,rfl,h1,_,_,rfl,R,rfl⟩:=J.inv;refine(zc (fun b=>b<w.heap.size) _ _ p q w (qfl j.lt C h1) (qgy j.lt I R) hw fun b h=>h).mono ?_;rintro e w' ⟨Y,a1,n1,c1,a2,n2,c2,m,a,n,rfl,_,hy⟩;obtain⟨rfl,hc⟩:=hy hr;exact⟨_,rfl,Y,qgJ (da.cons (qhW (.of fun b hb o=>.inr hb) hc) (da.cons (.any _) (da.cons (.s _) da.nil)))⟩
theorem qgz:ot qbq qcj:=⟨qii,qhs,qgw⟩
theorem qfn:qaL qbq qaR:=by have h:=qjb;rw[nc qdm] at h;exact⟨qdm,(zS (l:=qaR.Nf) (i:=0)).1 (by rw[h])⟩
theorem in4 {w:World}(h:LM w):qdE qbq∧qdg qcj∧qcq qaR:=by obtain⟨_,R,_,⟨C,v1,_,h1⟩,_⟩:=(qbT w h.1 h.2) [];obtain⟨_,I,_,⟨j,v2,_,J⟩,_⟩:=(qcA ex4 qcj R qei qhM (h.keep C).1) [];obtain⟨_,w3,_,⟨k3,a1,n1,c1,a2,n2,c2,m,a,n,_,_,Y⟩,_⟩:=(zc (fun b=>b<I.heap.size) v1 v2 qbq qcj I (cB.wide (fun b o=>Nat.lt_of_lt_of_le o.2 j.size) (cB.keep j.all h1)) (sI.wide (fun b o=>o.2) J) ((h.keep C).keep j).1 fun b h=>h) [];exact⟨qgv h1,qfK J,qfx (Y qgz).2⟩
theorem qek {w:World}(h:LM w):qaZ qbq qaR:=⟨(in4 h).1,(in4 h).2.2,qij,sm4,Dr names qiI⟩
theorem qgH:qaL qbq qaR→(qaw qaR).length*40≤140737488355328:=fun h=>by have:=qdb h.1;omega
theorem qhS {w:World}(h:LM w):VFL gz prog 8 [.agg (qaY qbq),.agg (qax qaR)] (·=.tup [.row 5 40 [[.s (.int .i64 0),.s (.int .i64 0),.s (.int .i64 1),.s (.int .i64 20),.s (.int .i64 0)]] none,.s (.int .i64 0)]):=by have h:=qdI qbq qaR (qek h) (fun h b j=>qbi h.1 j) qgH;unfold qdH at h;rw[ap qfn,qgG] at h;exact h
theorem qhx {w:World}(h:LM w):VFL gz prog 14 [.agg (qaY qbq),.agg (qax qaR),.s (.int .i64 0),.s (.int .i64 0),.s (.int .i64 3)] (·=.s (.bool true)):=by
 have h:=qin qbq qaR 0 0 3 (qek h) (fun h b o=>qbi h.1 o) qgH;have e:∃b l,qaR.Nf[(0:Int).toNat]? =some b∧b.Ng[(0:Int).toNat]? =some l∧(3:Int)<l.length:=by
  have e:((qaR.Nf[0]?.bind fun b=>b.Ng[0]?).map List.length)=some 7:=by kernel_rfl
  obtain⟨l,h1,h2⟩:=oE.1 e;obtain⟨b,C,I⟩:=Option.bind_eq_some_iff.1 h1;exact⟨b,l,C,I,by omega⟩
 obtain⟨b,l,J,R,Y⟩:=e;rwa [av ⟨qfn,b,l,by decide,by decide,by decide,J,R,Y,fun s j=>by rw[qgG,cx] at j;subst j;rfl⟩] at h
theorem qgx (N:Nat)(q:dN):∀x∈qej q,Lt N x:=by simp[LT,qiF,qhK,qgc,qiG]
theorem qdj:VFL LM prog 12 [] (·=.s (.bool true)):=by refine qbW [0] func12 rfl Tryz.results12 ntmps12 rfl fun g w o C=>?_;obtain⟨i1,i2,i3⟩:=in4 o;refine st ?_;refine qaG (fun j w' hle=>qik w' (LM.keep o (C j w' hle))) ?_;refine st ?_;refine qaG (fun j w' hle=>qhr qei qhM w' (LM.keep o (C j w' hle)).1) ?_;refine st ?_;refine qaG (fun j w' hle=>qfM i1 i2 qgz w' (LM.keep o (C j w' hle)).1) ?_ (hl:=xz (.agg _ (qaN 0 _)) (xz (.agg _ (qgx 0 _)) ik));refine st ?_;refine qaG (fun j w' hle=>qhS o w' (LM.keep o (C j w' hle)).1) ?_ (hl:=xz (.agg _ (qaN 0 _)) (xz (.agg _ (qaA 0 _)) ik));refine st ?_;refine qaG (fun j w' hle=>qhx o w' (LM.keep o (C j w' hle)).1) ?_ (hl:=xz (.agg _ (qaN 0 _)) (xz (.agg _ (qaA 0 _)) (xz (.s _) (xz (.s _) (xz (.s _) ik)))));refine st ?_;exact qar ⟨.inl rfl,[.s (.bool true)],_,rfl,yc.cons (.lt _ (.s _)) yc.nil,rfl⟩
end Q
section
namespace Q
open Classical in
theorem qba {p:aH}{c:aE}(h:qaL p c):(qaw c).length*40≤140737488355328:=by have:=qdb h.1;omega
theorem qip {p:aH}{c:aE}{g:Gh}{w:World}{H:List HO}{vs:List Value}(j:qaZ p c)(o:HR g w H)(C:da g w [.agg (qax c),.s (.int .i64 300)] vs):Calls prog 7 vs.toArray w fun e w'=>∃v q,e=.returned v∧(∃b:Bool,q=.s (.bool b)∧(b=true→MH c))∧aa All w w'∧VR (g.frz w.heap.size w') w' q v:=by obtain⟨_,_,rfl,h1,_,_,rfl,I,rfl⟩:=C.inv;cases I.of_s;refine(Hk (fun b=>b<w.heap.size) _ c w (qct o.lt j.code h1)).mono ?_;rintro e w' ⟨b,rfl,J,R⟩;exact⟨_,_,rfl,⟨b,rfl,J⟩,R,.s _⟩
end Q
end



theorem vr {S:Nat→Prop}{w:World}{v:Value}{l:List Int}(h:aK S w v l):aK (fun b=>S b∧b<w.heap.size) w v l:=by obtain⟨A,c,e,h1,o,C,I⟩:=h;refine⟨A,c,e,h1,o,C,fun i x J=>?_⟩;obtain⟨b,off,u,R,Y,j,e4⟩:=I i x J;exact⟨b,off,u,R,⟨Y,jy w _ j⟩,j,e4⟩
def yO (x:bz)(a f:Value):List Value:=[.int .u8 x.kind,.int .u8 x.op,.int .i64 x.dst,.int .i64 x.ref,.int .i64 x.Ni,a,f,.int .i64 x.num,.int .i64 x.Nj]
def ki (g lo j:Nat)(o:Bool)(w:World)(l:List bz):Prop:=∃cur,al w g 56 cur∧∀(k:Nat) y,l[k]? =some y→∃a f,
 (∀(r:Nat) u,(yO y a f)[r]? =some u→cur[k*9+r]? =some u)∧aK (fun b=>((k<j∨(k=j∧o=true))→lo≤b)∧b≠g) w a y.args∧aK (fun b=>(k<j→lo≤b)∧b≠g) w f y.Nh∧jx y
theorem ki.keep {g lo j:Nat}{C:Bool}{w w':World}{l:List bz}{S:Nat→Prop}(h:ki g lo j C w l)(k:aa S w w')(J:∀b,b<w.heap.size→S b):ki g lo j C w' l:=by obtain⟨cur,h1,R⟩:=h;have o:aa All w w':=⟨k.os,k.output,k.size,fun b I _=>k.block b I (J b I)⟩;refine⟨cur,h1.kept o trivial,fun k y hy=>?_⟩;obtain⟨a,f,Y,e2,e3,e4⟩:=R k y hy;exact⟨a,f,Y,ah.keep o.all e2,ah.keep o.all e3,e4⟩
theorem ki.get {g lo j:Nat}{o:Bool}{w:World}{l:List bz}(h:ki g lo j o w l){k:Nat}{x:bz}(C:l[k]? =some x):∃a f,(∀(r:Nat) u,(yO x a f)[r]? =some u→w.cell? ⟨g,k*9+r,none⟩=some u)∧(∀r,w.frozen? ⟨g,k*9+r,none⟩=false)∧aK (fun b=>b≠g) w a x.args∧aK (fun b=>b≠g) w f x.Nh:=by obtain⟨cur,h1,I⟩:=h;obtain⟨a,f,J,R,Y,e4⟩:=I k x C;exact⟨a,f,fun r u hu=>by rw[h1.cell];exact J r u hu,fun r=>h1.free _,ah.wide (fun _ h=>h.2) R,ah.wide (fun _ h=>h.2) Y⟩
theorem rE {cur:Array Value}{i j:Nat}{u v:Value}(h:cur[j]? =some v)(o:i≠j):(cur.setIfInBounds i u)[j]? =some v:=by rw[Array.getElem?_setIfInBounds_ne o];exact h
theorem Hi {cur:Array Value}{i:Nat}{u v:Value}(h:cur[i]? =some v):(cur.setIfInBounds i u)[i]? =some u:=by rw[Array.getElem?_setIfInBounds_self_of_lt (mV.1 h).1]
theorem rC {y:bz}{a f:Value}{r:Nat}{u:Value}(h:(yO y a f)[r]? =some u):r<9:=(lS.1 h).1
theorem Lp {y:bz}{a f j:Value}{r:Nat}{u:Value}(h:(yO y j f)[r]? =some u)(hr:r≠5):(yO y a f)[r]? =some u:=by have:=rC h;rcases r with _|_|_|_|_|_|_|_|_|r<;>first|exact h|omega
theorem Lq {y:bz}{a f j:Value}{r:Nat}{u:Value}(h:(yO y a j)[r]? =some u)(hr:r≠6):(yO y a f)[r]? =some u:=by have:=rC h;rcases r with _|_|_|_|_|_|_|_|_|r<;>first|exact h|omega
theorem ki.args {g lo j:Nat}{w:World}{l:List bz}{x:bz}{u:Value}(h:ki g lo j false w l)(hx:l[j]? =some x)(hu:aK (fun b=>lo≤b∧b≠g) w u x.args):ki g lo j true (w.setCell ⟨g,j*9+5,none⟩ u) l:=by
 obtain⟨cur,h1,h2⟩:=h;have J:aa (fun b=>b≠g) w (w.setCell ⟨g,j*9+5,none⟩ u):=(aa.refl _ w).setCell (p:=⟨g,j*9+5,none⟩) (.inl fun h=>h rfl) _;refine⟨_,h1.set _ _,fun k y hy=>?_⟩;obtain⟨a,f,R,e2,Y,e4⟩:=h2 k y hy;by_cases C:k=j
 ·subst C;rw[hx] at hy;cases hy;refine⟨u,f,fun r v I=>?_,ah.wide (fun b o=>⟨fun _=>o.1,o.2⟩) (ah.keep (J.mono fun b o=>o.2) hu),ah.keep (J.mono fun b o=>o.2) Y,e4⟩;by_cases hr:r=5
  ·subst hr
   cases I;exact Hi (R 5 a rfl)
  exact rE (R r v (Lp I hr)) (by omega)
 refine⟨a,f,fun r v I=>?_,ah.wide (fun b o=>⟨fun h=>o.1 (h.elim .inl fun h=>absurd h.1 C),o.2⟩) (ah.keep (J.mono fun b o=>o.2) e2),ah.keep (J.mono fun b o=>o.2) Y,e4⟩;have:=rC I;exact rE (R r v I) (by omega)
theorem ki.Nh {g lo j:Nat}{w:World}{l:List bz}{x:bz}{u:Value}(h:ki g lo j true w l)(hx:l[j]? =some x)(hu:aK (fun b=>lo≤b∧b≠g) w u x.Nh):ki g lo (j+1) false (w.setCell ⟨g,j*9+6,none⟩ u) l:=by
 obtain⟨cur,h1,h2⟩:=h;have I:aa (fun b=>b≠g) w (w.setCell ⟨g,j*9+6,none⟩ u):=(aa.refl _ w).setCell (p:=⟨g,j*9+6,none⟩) (.inl fun h=>h rfl) _;refine⟨_,h1.set _ _,fun k y hy=>?_⟩;obtain⟨a,f,J,Y,e3,e4⟩:=h2 k y hy;by_cases R:k=j
 ·subst R;rw[hx] at hy;cases hy;refine⟨a,u,fun r v C=>?_,ah.wide (fun b o=>⟨fun _=>o.1 (.inr ⟨rfl,rfl⟩),o.2⟩) (ah.keep (I.mono fun b o=>o.2) Y),ah.wide (fun b o=>⟨fun _=>o.1,o.2⟩) (ah.keep (I.mono fun b o=>o.2) hu),e4⟩;by_cases hr:r=6
  ·subst hr
   cases C;exact Hi (J 6 f rfl)
  exact rE (J r v (Lq C hr)) (by omega)
 refine⟨a,f,fun r v C=>?_,ah.wide (fun b o=>⟨fun h=>o.1 (h.elim (fun h=>.inl (by omega)) fun h=>by cases h.2),o.2⟩) (ah.keep (I.mono fun b o=>o.2) Y),ah.wide (fun b o=>⟨fun h=>o.1 (by omega),o.2⟩) (ah.keep (I.mono fun b o=>o.2) e3),e4⟩;have:=rC C;exact rE (J r v C) (by omega)
theorem ki.done {g lo c:Nat}{w:World}{l:List bz}(h:ki g lo l.length false w l)(C:lo≤g)(I:l.length≤c)(hm:c≤maxLen)(j:l.length*96≤140737488355328):tZ (fun b=>lo≤b∧b<w.heap.size) w (.slice (some ⟨g,0,none⟩) l.length c) l:=by obtain⟨cur,h1,J⟩:=h;refine⟨_,_,rfl,I,hm,j,fun k y hy=>?_⟩;obtain⟨a,f,R,Y,e3,e4⟩:=J k y hy;have o:=(lS.1 hy).1;refine⟨g,0,yO y a f,rfl,⟨C,h1.lt⟩,rfl,fun r u hu=>?_,a,f,rfl,vr (ah.wide (fun b j=>j.1 (.inl o)) Y),vr (ah.wide (fun b j=>j.1 o) e3),e4⟩;rw[h1.cell,cN];exact R r u hu
theorem tV {P:Program}(w:World){ops:Array Oper}{rest:List Oper}{o:Oper}{a:Act}{Q:Exit→Act→World→Prop}(b1:o.guard=none)(s x:Operand)(t:TypeId)
 (ho:o.op=.call {callee:=.builtin .append,args:=#[s,x],argTypes:=#[t,t]})
 (i:TypeInfo) (z:Value) (ht:P.underlying t=some (.slice 56)) (hi:P.info? 56=some i) (hz:i.zero=some z)
 (I:i.size=9) (b2:i.bytes=96) (b3:z.cells.size=9)
 (j lo:Nat) (hs:a.eval s=.slice (some ⟨j,0,none⟩) 0 0) (hg:al w j 56 #[]) {S:Nat→Prop} {A:Option Addr} {m c:Nat} {l:List bz} (hx:a.eval x=.slice A m c) (b4:tZ S w (.slice A m c) l) (hS:∀b,S b→b<j)
 (h:∀A' c' w' g,j≤g→(0<l.length→A'=some ⟨g,0,none⟩∧ki g lo 0 false w' l)→l.length≤c'→c'≤maxLen→w.grownBy w' (some j)→wpList P ops Q rest (a.put o.dst (.slice A' l.length c')) w'):wpList P ops Q (o::rest) a w:=by
 obtain⟨hm,c4,b5,C,h1,h2,h3,h4⟩:=xn b4;have b6:C.flatten.length=m*9:=by
  have:∀L:List (List Value),(∀c∈L,c.length=9)→L.flatten.length=L.length*9:=by(
 intro L;induction L with
 |nil=>intro _;simp
 |cons c L ih=>intro hL;rw[List.flatten_cons,iQ,kI,Nat.succ_mul,ih fun d hd=>hL d (List.mem_cons_of_mem _ hd),hL c (List.mem_cons_self ..)];omega)
  rw[this C h2,h1,hm]
 have b7:∀u∈C.flatten,u.oneCell'=true:=by intro u hu;obtain⟨cs,J,hu⟩:=List.mem_flatten.1 hu;obtain⟨k,hk⟩:=cY.1 J;have c5:=(lS.1 hk).1;obtain⟨c6,Y,a',f',e1,e2,e3,e4⟩:=h3 k _ (lG (by omega));rw[hk] at Y;cases Y;obtain⟨_,_,rfl,_⟩:=e2;obtain⟨_,_,rfl,_⟩:=e3;subst e1;simp only[fX,List.not_mem_nil,or_false] at hu;rcases hu with rfl|rfl|rfl|rfl|rfl|rfl|rfl|rfl|rfl<;>rfl
 have a1:w.ownsRow j 56 9 (.slice (some ⟨j,0,none⟩) 0 0) 0 []:=⟨by simp,.inr ⟨j,0,#[],rfl,cf _,hg,cf _,Nat.zero_le _,by simp,by simp⟩⟩;have a6:=hg.lt;refine aR w b1 s x t ho j 56 i z 9 96 ht hi hz I b2 b3 (by decide) _ 0 [] hs a1 A m c C.flatten hx b6 h4 b7 (by omega) (by rw[cN,hm];exact b5) (by omega) fun v' w' a7 R b8=>?_;rw[cN,mF,hm] at a7;obtain⟨hlen,hv⟩:=a7;rcases hv with ⟨rfl,h0⟩|⟨g,cap,cur,rfl,b9,hh,hc,a8,c7,c0⟩
 ·have c1:l.length=0:=h0
  have:=h none 0 w' j (cf _) (fun h=>by omega) (by omega) (by unfold maxLen;omega) R;rw[c1] at this;exact this
 have c8:g=j∨g=w.heap.size:=by
  rcases b8 with e|e;·left;injection e
  right;injection e
 have b0:aa S w w':=(aa.refl _ w).grown R fun b hb=>.inl fun h=>absurd (hS b h) (by have e:j=b:=kJ hb;omega);refine h (some ⟨g,0,none⟩) cap w' g b9 (fun _=>⟨rfl,cur,hh,fun k y hy=>?_⟩) hc a8 R;obtain⟨cs,J,a',f',e1,e2,e3,e4⟩:=h3 k y hy;subst e1;refine⟨a',f',fun r u hu=>?_,ah.wide (fun b hb=>⟨fun h=>absurd h (by simp),by have:=hS b hb;omega⟩) (ah.keep b0 e2),ah.wide (fun b hb=>⟨fun h=>by omega,by have:=hS b hb;omega⟩) (ah.keep b0 e3),e4⟩;have hf:=wN C h2 k _ J r u hu;rw[←Array.getElem?_toList];rw[←c0] at hf;have a6:k*9+r<l.length*9:=by have:=(lS.1 hf).1;rw[fN] at this;omega
 rw[rY a6] at hf;exact hf
end Go.Proofs.YtgdlhckhpolnnaaGreatDoor
