/- Part 48 of the proof (its last part says what is proved). No condition. -/
import Derived.Test.YtgdlhckhpolnnaaGreatDoorK46
namespace Go.Proofs.YtgdlhckhpolnnaaGreatDoor
set_option maxRecDepth 100000
set_option maxHeartbeats 8000000
open Go.RowKit Go.Proofs.Tryz
section
def qbh (p:cr):Nat→Nat→List EL→List cD→Option (List EL×List cD)
 |0,_,_,_=>none
 |f+1,k,j,o=>if k<p.l.length then
   (if p.txt k=qfJ∧j.length<16∧o.length=0 then do
    let(x,k)←qbZ p k
    qbh p f k (j++[x]) o
   else if p.txt k=YH∧o.length<64 then do
    let(x,k)←qdH p k
    qbh p f k j (o++[x])
   else none)
  else some (j,o)
def qcP (s:ByteArray):Option dN:=if s.size≤65536∧Ab s=true then do
    let l←Tt s (s.size+1) 0
    let(j,o)←qbh ⟨s,l⟩ (l.length+1) 0 [] []
    some ⟨j,o⟩
 else none
theorem qfT:(prog.info? 106).map (fun i=>(i.zero,i.size,i.bytes))=some (some (.agg #[.string ⟨#[]⟩,.int .i64 0,.string ⟨#[]⟩,.int .i64 0]),4,48):=by kernel_rfl
theorem qdK {p:cr}{f k:Nat}{o:List EL}{C:List cD}{r:List EL×List cD}(h:qbh p (f+1) k o C=some r):
 (¬k<p.l.length∧r=(o,C))∨(k<p.l.length∧p.txt k=qfJ∧o.length<16∧C=[]∧∃x j,qbZ p k=some (x,j)∧qbh p f j (o++[x]) C=some r)∨
 (k<p.l.length∧p.txt k=YH∧C.length<64∧∃x j,qdH p k=some (x,j)∧qbh p f j o (C++[x])=some r):=by
 rw[qbh] at h;split at h;·(
 rename_i J;right;split at h
 ·rename_i I
  obtain⟨⟨x,j⟩,R,Y⟩:=Option.bind_eq_some_iff.1 h;exact .inl ⟨J,I.1,I.2.1,oD I.2.2,x,j,R,Y⟩
 split at h
 ·rename_i I
  obtain⟨⟨x,j⟩,R,Y⟩:=Option.bind_eq_some_iff.1 h;exact .inr ⟨J,I.1,I.2,x,j,R,Y⟩
 cases h)
 rename_i J;cases h;exact .inl ⟨J,rfl⟩
theorem qez {s:ByteArray}{q:dN}(h:qcP s=some q):s.size≤65536∧Ab s=true∧∃l,Tt s (s.size+1) 0=some l∧qbh ⟨s,l⟩ (l.length+1) 0 [] []=some (q.Nd,q.Nf):=by
 unfold qcP at h;split at h;·rename_i j;obtain⟨l,o,C⟩:=Option.bind_eq_some_iff.1 h;obtain⟨⟨I,Y⟩,J,R⟩:=Option.bind_eq_some_iff.1 C;cases R;exact⟨j.1,j.2,l,o,J⟩
 cases h
theorem qdz {p:cr}(j:p.Ok){k k':Nat}{x:EL}(h:qbZ p k=some (x,k'))(W w:World):k<k'∧Tq EB W 4 x (.agg #[.string x.name,.int .i64 x.size,.string x.level,.int .i64 x.Nj]) w:=by
 obtain⟨_,_,n,_,C,I,_,rfl,rfl⟩:=qce h;have o:=We j k;refine⟨by omega,[_,_,_,_],rfl,rfl,?_,rfl,?_,?_,Hn j _,Hn j _⟩
 ·intro u hu
  simp at hu;rcases hu with rfl|rfl|rfl|rfl<;>rfl
 ·show aV (n:Int)
  unfold aV;omega
 show aV ((p.pos k:Nat):Int);unfold aV;omega
theorem qdy {B:Nat}{w w':World}{v:Value}{l:List EL}{S:Nat→Prop}(h:dR 4 106 EB B w v l)(k:aa S w w')(o:∀g,v.ownBlock=some g→S g):dR 4 106 EB B w' v l:=by obtain⟨j,P,C,I,J,h4,R⟩:=h;exact⟨j,fun _=>False,be C k o,I,J,fun _ h=>h.elim,fun i x Y=>by obtain⟨cs,hc,he⟩:=R i x Y;exact⟨cs,hc,he⟩⟩
structure GQt (w:World)(rb pb:Nat)(p:cr)(A:Option Addr)(C k:Nat)(ars:List EL)(l:List cD)(W:World):Prop where
 kept:aa (fun b=>b<w.heap.size) w W
 par:∃m,m≤k∧PB W (pb+1) pb p A C k m
 box:∃A0 C0 A1 C1,al W rb 69 #[.slice A0 ars.length C0,.slice A1 l.length C1]∧(l=[]→A1=none∧C1=0)∧dR 4 106 EB (pb+1) W (.slice A0 ars.length C0) ars∧dR 4 110 uA (pb+1) W (.slice A1 l.length C1) l
 z1:al W (rb+1) 3 #[.int .i64 0]
 z2:al W (rb+1+1) 33 #[.int .i64 0]
 low:w.heap.size≤rb∧rb+1+1<pb
 tk:WG (fun b=>rb+1+1<b∧b<pb) W (.slice A p.l.length C) p.l
section
variable {w W W':World} {rb pb:Nat} {p:cr} {A:Option Addr} {C k k' m':Nat} {ars:List EL} {l:List cD}
theorem GQt.moved (h:GQt w rb pb p A C k ars l W)(hm:wi pb p A C k' m' W W')(o:m'≤k'):GQt w rb pb p A C k' ars l W':=by have hl:=h.low;obtain⟨m,_,I⟩:=h.par;obtain⟨J,R,Y,C1,j,hz,h0,hr⟩:=h.box;exact⟨h.kept.trans (hm.1.mono fun b j=>by show b≠pb;omega),⟨m',o,I.moved hm⟩,⟨J,R,Y,C1,j.kept hm.1 (by show rb≠pb;omega),hz,h0.keep pH hm.1 fun b h1 h2=>by show b≠pb;omega,hr.keep nj hm.1 fun b h1 h2=>by show b≠pb;omega⟩,h.z1.kept hm.1 (by show rb+1≠pb;omega),h.z2.kept hm.1 (by show rb+1+1≠pb;omega),hl,cu.keep (hm.1.mono fun b j=>by show b≠pb;omega) h.tk⟩
theorem GQt.all (h:GQt w rb pb p A C k ars l W)(j:aa All W W'):GQt w rb pb p A C k ars l W':=by obtain⟨m,hm,o⟩:=h.par;exact h.moved ⟨j.all,o.pat.keep j⟩ hm
end
theorem qex (rb pb:Nat)(p:cr)(A:Option Addr)(C k:Nat)(ars:List EL)(l:List cD)(w W:World)(I J:Option Addr)(R Y:Nat)(a:Act)
 (hd:a.defers=[{target:=.fn (.func 39) #[.pointer (some ⟨rb,0,none⟩),.pointer (some ⟨rb+1,0,none⟩),.pointer (some ⟨rb+1+1,0,none⟩)],args:=#[]}])
 (t4:a.tmps[2]? =some (.pointer (some ⟨rb,0,none⟩))) (t5:a.tmps[3]? =some (.pointer (some ⟨rb+1,0,none⟩))) (t6:a.tmps[4]? =some (.pointer (some ⟨rb+1+1,0,none⟩))) (a6:l.length≤64) (a7:ars.length≤16)
 (hs:GQt w rb pb p A C k ars l W) (j:al W rb 69 #[.slice I ars.length R,.slice J l.length Y]) (h0:dR 4 106 EB (pb+1) W (.slice I ars.length R) ars) (hr:dR 4 110 uA (pb+1) W (.slice J l.length Y) l):
 bodyPostD prog Tryz.f21 (Vc ⟨ars,l⟩ w) .ret a ((((W.setCell ⟨rb,0,none⟩ (.slice I ars.length R)).setCell ⟨rb,1,none⟩ (.slice J l.length Y)).setCell ⟨rb+1,0,none⟩ (.int .i64 0)).setCell ⟨rb+1+1,0,none⟩ (.int .i64 0)):=by
 have a1:=hs.low;obtain⟨m,hm,hP⟩:=hs.par;have a8:=hP.size;have k1:aa (fun b=>b≠rb) W ((W.setCell ⟨rb,0,none⟩ (.slice I ars.length R)).setCell ⟨rb,1,none⟩ (.slice J l.length Y)):=((kR.setCell (.inl fun h=>h rfl) _).setCell (.inl fun h=>h rfl) _);have b1:=(j.set 0 (.slice I ars.length R)).set 1 (.slice J l.length Y);have y1:=hs.z1.kept k1 (by show rb+1≠rb;omega);have y2:=hs.z2.kept k1 (by show rb+1+1≠rb;omega);simp only[ga] at b1;generalize World.setCell _ ⟨rb,1,none⟩ _=W1 at*;have k2:aa (fun b=>b≠rb+1) W1 (W1.setCell ⟨rb+1,0,none⟩ (.int .i64 0)):=kR.setCell (.inl fun h=>h rfl) _;have b2:=b1.kept k2 (by show rb≠rb+1;omega);have y3:=y1.set 0 (.int .i64 0);have y4:=y2.kept k2 (by show rb+1+1≠rb+1;omega);simp only[ga] at y3;generalize World.setCell _ ⟨rb+1,0,none⟩ _=W2 at*;have k3:aa (fun b=>b≠rb+1+1) W2 (W2.setCell ⟨rb+1+1,0,none⟩ (.int .i64 0)):=kR.setCell (.inl fun h=>h rfl) _;have b3:=b2.kept k3 (by show rb≠rb+1+1;omega);have y5:=y3.kept k3 (by show rb+1≠rb+1+1;omega);have y6:=y4.set 0 (.int .i64 0);simp only[ga] at y6;generalize World.setCell _ ⟨rb+1+1,0,none⟩ _=W3 at*;have kF:aa (fun b=>b≠rb∧b≠rb+1∧b≠rb+1+1) W W3:=((k1.mono fun b j=>j.1).trans (k2.mono fun b j=>j.2.1)).trans (k3.mono fun b j=>j.2.2);have r2:=(hr.keep nj kF (fun b o h2=>⟨by omega,by omega,by omega⟩)).read (bw:=72) nj (by omega);have r1:=(h0.keep pH kF (fun b o h2=>⟨by omega,by omega,by omega⟩)).read (bw:=48) pH (by omega);have kw:aa All w W3:=by have o:aa (fun b=>b<w.heap.size) w W3:=hs.kept.trans (kF.mono fun b (j:b<w.heap.size)=>⟨by omega,by omega,by omega⟩);exact⟨o.os,o.output,o.size,fun i hi hS=>o.block i hi hi⟩
 exact WO _ a W3 rb (rb+1) (rb+1+1) _ _ b3 y5 y6 hd t4 t5 t6 ⟨kw,_,rfl,_,_,rfl,lJ.wide (fun b j=>⟨by omega,j.2⟩) r1,iX.wide (fun b j=>⟨by omega,j.2⟩) r2⟩
theorem qcw (s:ByteArray)(q:dN)(w:World)(hr:qcP s=some q)(hm:∀l,Tt s (s.size+1) 0=some l→l.length≤4096)(hl:gz w):
 Calls prog 21 #[.string s] w (Vc q w):=by
 obtain⟨iI,IS⟩:=iH Xh;obtain⟨iA,j3⟩:=iH qfT;have n5:∀(fn:Fn) (first cap:Array Value) (w:World),(Instr.makeFunc fn first cap).run prog w=.ok (.func fn first cap) w:=fun _ _ _ _=>rfl;obtain⟨c6,j7,l0,ht,j8⟩:=qez hr;obtain⟨p,d7⟩:=eQ (cr.mk s l0);have hp:p.Ok:=by rw[d7];exact Yh c6 j7 ht
 have hs:p.s=s:=by rw[d7]
 have k7:p.l=l0:=by rw[d7]
 rw[←d7] at j8;have h4:p.l.length≤4096:=by rw[k7];exact hm l0 ht
 subst hs;subst k7;have d8:=J5 ht j8 hl j7 c6;clear hr ht j8 hl d7 hm j7 c6;obtain⟨W0,b8⟩:=eQ (((w.alloc (.cells #[.slice none 0 0,.slice none 0 0] 69)).alloc (.cells #[.int .i64 0] 3)).alloc (.cells #[.int .i64 0] 33));have k8:=aC3 b8;have c6:=aD3 b8;have g1:=aA2 b8;have g2:=aB1 b8 aE1;have g3:=aB0 b8 aE2;have H0:=J6 b8 k8 c6 g1 g2 g3;clear b8 k8 c6 g1 g2 g3
 go_enter_defers func21,ntmps21
 go_upto_region 1 with fail;rw[←H0.1];go_wp2_with fail;refine(Xt p.s p.l W0 d8.2.2.2.1 d8.2.2.2.2 d8.1).mono ?_;rintro e w1 ⟨d9,A,C,rfl,b6⟩;have H1:=J5 d9 b6 (H0.2.2.2.1.kept d9 trivial) (H0.2.2.2.2.1.kept d9 trivial) (H0.2.2.2.2.2.kept d9 trivial);clear d9 b6;have u5:=H1.2.2.2.1.cl 0;have y5:=H1.2.2.2.1.free 0;have u6:=H1.2.2.2.2.cl 0;have y6:=H1.2.2.2.2.free 0;go_upto_region 2 with fail;have k2:aa (fun b=>b≠w.heap.size+1∧b≠w.heap.size+1+1) w1 ((w1.setCell ⟨w.heap.size+1,0,none⟩ (.int .i64 0)).setCell ⟨w.heap.size+1+1,0,none⟩ (.int .i64 0)):=(kR.setCell (.inl fun h=>h.1 rfl) _).setCell (.inl fun h=>h.2 rfl) _;have z1:=(H1.2.2.2.1.set 0 (.int .i64 0)).kept ((aa.refl (fun b=>b≠w.heap.size+1+1) _).setCell (p:=⟨w.heap.size+1+1,0,none⟩) (.inl fun h=>h rfl) (.int .i64 0)) (by show w.heap.size+1≠_;omega);have z2:=(H1.2.2.2.2.kept ((aa.refl (fun b=>b≠w.heap.size+1) w1).setCell (p:=⟨w.heap.size+1,0,none⟩) (.inl fun h=>h rfl) (.int .i64 0)) (by show w.heap.size+1+1≠_;omega)).set 0 (.int .i64 0);simp only[ga] at z1 z2;generalize World.setCell _ ⟨w.heap.size+1+1,0,none⟩ _=W2 at*;have l9:=H1.1.size;have m9:=H0.2.2.1;have bR:al W2 w.heap.size 69 #[.slice none 0 0,.slice none 0 0]:=H1.2.2.1.kept k2 ⟨by omega,by omega⟩;have k9:WG (fun b=>w.heap.size+1+1<b∧b<w1.heap.size) W2 (.slice A p.l.length C) p.l:=cu.wide (fun b hb=>⟨by omega,hb.2⟩) (cu.keep (k2.mono fun b hb=>⟨by omega,by omega⟩) H1.2.1);have H2:=J5 k2 bR z1 z2 k9;clear u5 y5 u6 y6;have u6:=z2.cl 0;clear k2 z1 z2 bR k9;go_upto_region 4 with fail;clear u6;go_upto_region 6 with fail;have k3:aa All W2 (W2.alloc (.cells #[.string p.s,.slice A p.l.length C,.int .i64 0,.int .i64 0] 102)):=kR.alloc _;have b3:al (W2.alloc (.cells #[.string p.s,.slice A p.l.length C,.int .i64 0,.int .i64 0] 102)) W2.heap.size 102 #[.string p.s,.slice A p.l.length C,.int .i64 0,.int .i64 0]:=al.new _ _ _;obtain⟨rb,c7⟩:=eQ w.heap.size;obtain⟨pb,j4⟩:=eQ W2.heap.size;have n1:=H2.1.size;have l2:W2.heap.size<(W2.alloc (.cells #[.string p.s,.slice A p.l.length C,.int .i64 0,.int .i64 0] 102)).heap.size:=by simp
 have l3:GQt w rb pb p A C 0 [] [] (W2.alloc (.cells #[.string p.s,.slice A p.l.length C,.int .i64 0,.int .i64 0] 102)):=by refine⟨(((H0.2.1.trans H1.1).all.trans (H2.1.mono fun b (hb:b<w.heap.size)=>⟨by omega,by omega⟩)).trans k3.all),⟨0,cf _,by rw[j4];exact b3,cu.wide (fun b hb=>⟨by omega,by omega⟩) (cu.keep k3.all H2.2.2.2.2),by omega,by omega,Nat.zero_le _⟩,⟨none,0,none,0,by rw[c7];exact H2.2.1.kept k3 trivial,fun _=>⟨rfl,rfl⟩,dR.nil,dR.nil⟩,by rw[c7];exact H2.2.2.1.kept k3 trivial,by rw[c7];exact H2.2.2.2.1.kept k3 trivial,⟨by omega,by omega⟩,cu.wide (fun b hb=>⟨by omega,by omega⟩) (cu.keep k3.all H2.2.2.2.2)⟩
 rw[←j4,←c7];generalize W2.alloc _=W3 at*;have H3:=oH l3;have n7:=J2 c7 j4;clear k3 b3 l2 l3 n1 l9 m9 j4 c7;go_loopg [] (p.l.length+1) (fun g wr=>∃(f o:Nat) (I:List EL) (J:List cD),g=f∧J.length≤64∧I.length≤16∧qbh p f o I J=some (q.Nd,q.Nf)∧GQt w rb pb p A C o I J wr);·exact⟨p.l.length+1,0,[],[],rfl,Nat.zero_le _,Nat.zero_le _,d8.2.1,H3.out⟩
 obtain⟨f,o,I,J,n8,j5,j6,j9,l4⟩:=hrel;obtain⟨wo,n2⟩:=eQ wr;subst n2;cases f with
 |zero=>cases j9
 |succ f=>
 have HS:=J2 l4 j9;clear l4 j9;obtain⟨m1,n9,l5⟩:=HS.1.par;have c8:=oH l5;clear l5;have bq:=c8.out.box.cl 2;have n4:=c8.out.le;have hlen:=hp.len;rcases qdK HS.2 with ⟨hk,e1⟩|⟨hk,e0,k0,l6,x,R,e8,e9⟩|⟨hk,e0,k4,x,R,e8,e9⟩
 ·injection e1 with e1 e2;subst e1;subst e2;have hd:decide ((o:Int)<(p.l.length:Int))=false:=by simpa using hk
  go_upto_region 15 with fail;obtain⟨A0,C0,A1,C1,Y,_,b7,l7⟩:=HS.1.box;obtain⟨c0,c1⟩:=Y.c2;have f0:=Y.free 0;have f1:=Y.free 1;have t5:=HS.1.z1.cl 0;have f5:=HS.1.z1.free 0;have t6:=HS.1.z2.cl 0;have f6:=HS.1.z2.free 0;have HB:=J3 Y b7 l7;clear Y b7 l7;go_wp2_with fail;exact qex rb pb p A C o q.Nd q.Nf w wo A0 A1 C0 C1 _ rfl rfl rfl rfl j5 j6 HS.1 HB.1 HB.2.1 HB.2.2
 ·(
 have hd:decide ((o:Int)<(p.l.length:Int))=true:=by simpa using hk
 have HE:=J3 e8 e9 e0;clear e8 e9 e0;go_wp2_with fail;refine(xt pb p A C o m1 0 wo c8.out.pat hp (by omega)).mono ?_;rintro e w2 ⟨rfl,b9⟩;rw[dj];have n3:((p.txt o).toList==[97,114,114,97,121])=true:=by rw[HE.2.2];kernel_rfl
 have j:=oH (HS.1.all b9);have k5:=oH (c8.out.kept b9 fun _ _=>trivial);clear b9 bq;obtain⟨A6,C6,A7,C7,h0,_⟩:=j.out.box;have b1:=h0.cl 0;clear h0;go_wp2_with fail;refine(To pb I.length 16 w2 k0).mono ?_;rintro e w3 ⟨rfl,rfl⟩;clear b1;go_upto_region 11 with fail;obtain⟨A1,C1,A0,C0,Y,h3,⟨h5,P,r1,r2,r3,r4,r5⟩,b7⟩:=j.out.box;have h6:=j.out.low;have c4:Value.ownBlock (.slice A1 I.length C1)≠some rb:=fun e=>by have:=(aD r1 e).1;omega
 have h7:Value.ownBlock (.slice A1 I.length C1)≠some pb:=fun e=>by have:=(aD r1 e).1;omega
 have hz:pb+1≤w2.heap.size:=k5.out.size;have HC:=oH (show∀wn,aa (fun i=>Value.ownBlock (.slice A1 I.length C1)≠some i∧i≠pb) w2 wn→(∃m1,m1≤o∧PB wn (pb+1) pb p A C (o) m1)→Calls prog 42 #[.pointer (some ⟨pb,0,none⟩)] wn (fun e w'=>∃u m3,e=.returned u∧m3≤R∧aa (fun i=>i≠pb) wn w'∧PB w' (pb+1) pb p A C R m3∧Tq EB wn 4 x u w') from fun wn hk hn=>by obtain⟨m1,l8,hn⟩:=hn;exact(qew pb p A C o m1 R x wn hn.pat hp HE.1).mono fun e w' h=>⟨_,m1,h.1,by have:=(qdz hp HE.1 wn wn).1;omega,h.2.1,hn.moved h.2,(qdz hp HE.1 wn w').2⟩);have HV:=oH (fun wn (hk:aa (fun i=>Value.ownBlock (.slice A1 I.length C1)≠some i∧i≠pb) w2 wn)=>show wn.cell? ⟨rb,0,none⟩=some (.slice A1 I.length C1) from(Y.kept hk ⟨c4,by omega⟩).cell 0);have HG:=oH (Uf pH (pb:=pb) (W:=w2) (x:=x) (PS:=(fun b wn=>if b then∃m',m'≤R∧PB wn (pb+1) pb p A C R m' else∃m1,m1≤(o)∧PB wn (pb+1) pb p A C (o) m1)) (v:=(.slice A1 I.length C1)) (by omega) r1 h7 fun b wa wb hk hP=>by cases b<;>(obtain⟨m2,a6,hP⟩:=hP;exact⟨m2,a6,hP.kept hk fun i hi e=>by have:=(aD r1 e).1;omega⟩));have HR:=J8 r1 (show(if false=true then∃m',m'≤R∧PB w2.drew (pb+1) pb p A C (R) m' else∃m1,m1≤o∧PB w2.drew (pb+1) pb p A C (o) m1) from by obtain⟨m2,a6,hP⟩:=j.out.par;exact⟨m2,a6,hP.kept (S:=All) kR.drew fun _ _=>trivial⟩) c4 r2 r3 r4 r5 Y;have c9:=J2 b7 h3;clear r1 r2 r3 r4 r5 Y h7 c4 b7 h3;refine hH 7 3 [4,5] (SY w2 (fun i=>i≠pb) (pb+1) 106 4 (.slice A1 I.length C1) I.length h5.flatten (fun b wn=>if b then∃m',m'≤R∧PB wn (pb+1) pb p A C R m' else∃m1,m1≤(o)∧PB wn (pb+1) pb p A C (o) m1)) [44,45,46] (FY w2 (fun i=>i≠pb) (pb+1) 106 4 (.slice A1 I.length C1) I.length h5.flatten qbG (Tq EB w2 4 x) 45 44) (fun i=>if i=3 then some (fun u=>∃s a v n,u=.agg #[.string s,a,v,.int .i64 n]) else if i=4 then some Oa else if i=5 then some (NT I.length) else none) (fun _=>false) (fun _ _=>False) (by kernel_rfl) (by kernel_rfl) (by kernel_rfl) (by kernel_rfl) (VJ _ _ _) (by kernel_rfl) (by decide) (SY.first HR.1 HR.2.1) (fun _ _ _ h=>h.elim) ?_;simp only[tK];iterate 3 refine OY (fun b wn hs hp=>by(have q:=HV.out wn hs.1;skip;go_simp;with_reducible rfl)) ?_
 refine Hy (V:=(fun u=>∃s a v n,u=.agg #[.string s,a,v,.int .i64 n])) HG.out (by rfl) (by rfl) (by rfl) rfl (by decide) (fun wn hs=>⟨_,_,by(have q:=HV.out wn hs.1;go_simp<;>with_reducible rfl),(HC.out wn hs.1 hs.2.2).mono fun e w' h=>by obtain⟨u,m3,e1,e2,e3,e4,e5⟩:=h;exact⟨u,e1,(by obtain⟨cs,e6,_,_,e7,_⟩:=e5;subst e7;exact⟨_,_,_,_,e6⟩),e3,⟨m3,e2,e4⟩,e5.early pH hs.1.size⟩⟩) ?_;rintro u ⟨s0,a0,v0,n0,rfl⟩;simp only[PS];refine Tv HG.out (by decide) (by rfl) (by rfl) (by rfl) rfl (by decide) _ rfl (by decide) (fun wn hs=>by(simp only[qbG];go_simp<;>with_reducible rfl)) ?_;intro g;simp only[PS];refine Tu HG.out (by decide) (by rfl) (by rfl) (by rfl) rfl (by decide) (by decide) (.tmp 42) 66 rfl iA _ 48 underlying66 j3.1 j3.2.1 j3.2.2.1 j3.2.2.2 rfl (by decide) rfl g rfl (by decide) (fun y w hy=>hy.cells) (by unfold maxLen;omega) (by omega) (by omega) ?_;intro A5 c5;simp only[PS];refine OY (fun b wn hs hp=>by(have q:=HV.out wn hs.1;skip;go_simp;with_reducible rfl)) ?_;refine TE fun wt h8 hF=>?_;have b0:=hF 46 (by simp) _ rfl;unfold FY at b0;rw[ae (by decide),ae (by decide)] at b0;have HT:=oH (show SY _ _ _ _ _ _ _ _ _ _ _ from h8);have HA:=oH b0;clear h8 hF b0;simp only[dK];have a7:=HR.2.2.2.2.2.2.2.kept HT.1 ⟨HR.2.2.1,by omega⟩;have b5:=a7.cl 0;have f5:=a7.free 0;clear a7;go_wp2_with fail;go_roundg f
 ·refine⟨f,R,I++[x],J,rfl,j5,by rw[iQ];show I.length+1≤_;omega,HE.2.1,?_⟩;obtain⟨y,wz,q1,q2,q3,q4,q5⟩:=HA.out;have a7:=HR.2.2.2.2.2.2.2.kept HT.1 ⟨HR.2.2.1,by omega⟩;have h9:=Us pH (pb:=pb) (B:=pb+1) (by omega) (by omega) HR.1 HR.2.2.2.1 HR.2.2.2.2.1 HR.2.2.2.2.2.1 HR.2.2.2.2.2.2.1 HT.1 q1 q2 q3 q4 q5;have kc:aa (fun b=>b≠rb) wt (wt.setCell ⟨rb,0,none⟩ (.slice A5 (I.length+1) c5)):=kR.setCell (.inl fun h=>h rfl) _;have j0:=a7.set 0 (.slice A5 (I.length+1) c5);simp only[ga] at j0;have a8:(I++[x]).length=I.length+1:=by simp
  have k6:∃m',m'≤R∧PB wt (pb+1) pb p A C R m':=HT.2.2;have b2:∀b,b≤pb→Value.ownBlock (.slice A1 I.length C1)≠some b:=fun b hb e=>by have:=(aD HR.1 e).1;omega
  have j2:GQt w rb pb p A C R (I++[x]) J (wt.setCell ⟨rb,0,none⟩ (.slice A5 (I.length+1) c5)):=by obtain⟨m2,a6,b4⟩:=k6;have b6:=cu.keep (kc.mono fun b (hb:rb+1+1<b∧b<pb)=>by show b≠rb;omega) (cu.keep (HT.1.mono fun b (hb:rb+1+1<b∧b<pb)=>⟨b2 b (by omega),by omega⟩) j.out.tk);exact⟨(j.out.kept.trans (HT.1.mono fun b (hb:b<w.heap.size)=>⟨b2 b (by omega),by omega⟩)).trans (kc.mono fun b (hb:b<w.heap.size)=>by show b≠rb;omega),⟨m2,a6,⟨b4.box.kept kc (by show pb≠rb;omega),cu.wide (fun b hb=>⟨by omega,by omega⟩) b6,b4.low,by have:=b4.size;have:=kc.size;omega,b4.le⟩⟩,⟨A5,c5,A0,C0,by rw[a8];exact j0,c9.2,by rw[a8];exact h9.keep pH kc fun b h1 h2=>by show b≠rb;omega,by obtain⟨z1,z2⟩:=c9.2 l6;subst z1;subst z2;subst l6;exact dR.nil⟩,(j.out.z1.kept HT.1 ⟨b2 _ (by omega),by omega⟩).kept kc (by show rb+1≠rb;omega),(j.out.z2.kept HT.1 ⟨b2 _ (by omega),by omega⟩).kept kc (by show rb+1+1≠rb;omega),h6,b6⟩
  exact j2
 omega)
 have hd:decide ((o:Int)<(p.l.length:Int))=true:=by simpa using hk
 have HE:=J3 e8 e9 e0;clear e8 e9 e0;go_wp2_with fail;refine(xt pb p A C o m1 0 wo c8.out.pat hp (by omega)).mono ?_;rintro e w2 ⟨rfl,b9⟩;rw[dj];have n3:((p.txt o).toList==[97,114,114,97,121])=false:=by rw[HE.2.2];kernel_rfl
 have o0:((p.txt o).toList==[102,110])=true:=by rw[HE.2.2];kernel_rfl
 have j:=oH (HS.1.all b9);have k5:=oH (c8.out.kept b9 fun _ _=>trivial);clear b9 bq;obtain⟨A6,C6,A7,C7,h0,_⟩:=j.out.box;have b1:=h0.cl 1;clear h0;go_wp2_with fail;refine(To pb J.length 64 w2 k4).mono ?_;rintro e w3 ⟨rfl,rfl⟩;clear b1;go_upto_region 14 with fail;obtain⟨A0,C0,A1,C1,Y,h3,b7,h5,P,r1,r2,r3,r4,r5⟩:=j.out.box;have h6:=j.out.low;have c4:Value.ownBlock (.slice A1 J.length C1)≠some rb:=fun e=>by have:=(aD r1 e).1;omega
 have h7:Value.ownBlock (.slice A1 J.length C1)≠some pb:=fun e=>by have:=(aD r1 e).1;omega
 have hz:pb+1≤w2.heap.size:=k5.out.size;have HC:=oH (show∀wn,aa (fun i=>Value.ownBlock (.slice A1 J.length C1)≠some i∧i≠pb) w2 wn→(∃m1,m1≤o∧PB wn (pb+1) pb p A C (o) m1)→Calls prog 43 #[.pointer (some ⟨pb,0,none⟩)] wn (fun e w'=>∃u m3,e=.returned u∧m3≤R∧aa (fun i=>i≠pb) wn w'∧PB w' (pb+1) pb p A C R m3∧Tq uA wn 4 x u w') from fun wn hk hn=>by obtain⟨m1,l8,hn⟩:=hn;exact(qey pb p A C (o) m1 R x wn hn.pat hp (d8.2.2.1.keepLow (j.out.kept.trans (hk.mono fun b (hb:b<w.heap.size)=>⟨fun e=>by have:=(aD r1 e).1;omega,by omega⟩))) l8 h4 HE.1).mono fun e w' h=>by obtain⟨u,m3,e1,e2,e3,e4,e5⟩:=h;exact⟨u,m3,e1,e2,e3,hn.moved ⟨e3,e4⟩,e5⟩);have HV:=oH (fun wn (hk:aa (fun i=>Value.ownBlock (.slice A1 J.length C1)≠some i∧i≠pb) w2 wn)=>show wn.cell? ⟨rb,1,none⟩=some (.slice A1 J.length C1) from(Y.kept hk ⟨c4,by omega⟩).cell 1);have HG:=oH (Uf nj (pb:=pb) (W:=w2) (x:=x) (PS:=(fun b wn=>if b then∃m',m'≤R∧PB wn (pb+1) pb p A C R m' else∃m1,m1≤(o)∧PB wn (pb+1) pb p A C (o) m1)) (v:=(.slice A1 J.length C1)) (by omega) r1 h7 fun b wa wb hk hP=>by cases b<;>(obtain⟨m2,a6,hP⟩:=hP;exact⟨m2,a6,hP.kept hk fun i hi e=>by have:=(aD r1 e).1;omega⟩));have HR:=J8 r1 (show(if false=true then∃m',m'≤R∧PB w2.drew (pb+1) pb p A C (R) m' else∃m1,m1≤o∧PB w2.drew (pb+1) pb p A C (o) m1) from by obtain⟨m2,a6,hP⟩:=j.out.par;exact⟨m2,a6,hP.kept (S:=All) kR.drew fun _ _=>trivial⟩) c4 r2 r3 r4 r5 Y;have c9:=J2 b7 h3;clear r1 r2 r3 r4 r5 Y h7 c4 b7 h3;refine hH 7 3 [4,5] (SY w2 (fun i=>i≠pb) (pb+1) 110 4 (.slice A1 J.length C1) J.length h5.flatten (fun b wn=>if b then∃m',m'≤R∧PB wn (pb+1) pb p A C R m' else∃m1,m1≤(o)∧PB wn (pb+1) pb p A C (o) m1)) [58,59,60] (FY w2 (fun i=>i≠pb) (pb+1) 110 4 (.slice A1 J.length C1) J.length h5.flatten qbG (Tq uA w2 4 x) 59 58) (fun i=>if i=3 then some (fun u=>∃s a v n,u=.agg #[.string s,a,v,.int .i64 n]) else if i=4 then some Oa else if i=5 then some (NT J.length) else none) (fun _=>false) (fun _ _=>False) (by kernel_rfl) (by kernel_rfl) (by kernel_rfl) (by kernel_rfl) (VJ _ _ _) (by kernel_rfl) (by decide) (SY.first HR.1 HR.2.1) (fun _ _ _ h=>h.elim) ?_;simp only[tK];iterate 3 refine OY (fun b wn hs hp=>by(have q:=HV.out wn hs.1;skip;go_simp;with_reducible rfl)) ?_
 refine Hy (V:=(fun u=>∃s a v n,u=.agg #[.string s,a,v,.int .i64 n])) HG.out (by rfl) (by rfl) (by rfl) rfl (by decide) (fun wn hs=>⟨_,_,by(have q:=HV.out wn hs.1;go_simp<;>with_reducible rfl),(HC.out wn hs.1 hs.2.2).mono fun e w' h=>by obtain⟨u,m3,e1,e2,e3,e4,e5⟩:=h;exact⟨u,e1,(by obtain⟨cs,e6,_,_,a,v,e7,_⟩:=e5;subst e7;exact⟨_,_,_,_,e6⟩),e3,⟨m3,e2,e4⟩,e5.early nj hs.1.size⟩⟩) ?_;rintro u ⟨s0,a0,v0,n0,rfl⟩;simp only[PS];refine Tv HG.out (by decide) (by rfl) (by rfl) (by rfl) rfl (by decide) _ rfl (by decide) (fun wn hs=>by(simp only[qbG];go_simp<;>with_reducible rfl)) ?_;intro g;simp only[PS];refine Tu HG.out (by decide) (by rfl) (by rfl) (by rfl) rfl (by decide) (by decide) (.tmp 56) 67 rfl iI _ 72 underlying67 IS.1 IS.2.1 IS.2.2.1 IS.2.2.2 rfl (by decide) rfl g rfl (by decide) (fun y w hy=>hy.cells) (by unfold maxLen;omega) (by omega) (by omega) ?_;intro A5 c5;simp only[PS];refine OY (fun b wn hs hp=>by(have q:=HV.out wn hs.1;skip;go_simp;with_reducible rfl)) ?_;refine TE fun wt h8 hF=>?_;have b0:=hF 60 (by simp) _ rfl;unfold FY at b0;rw[ae (by decide),ae (by decide)] at b0;have HT:=oH (show SY _ _ _ _ _ _ _ _ _ _ _ from h8);have HA:=oH b0;clear h8 hF b0;simp only[dK];have a7:=HR.2.2.2.2.2.2.2.kept HT.1 ⟨HR.2.2.1,by omega⟩;have b5:=a7.cl 1;have f5:=a7.free 1;clear a7;go_wp2_with fail;go_roundg f
 ·refine⟨f,R,I,J++[x],rfl,by rw[iQ];show J.length+1≤_;omega,j6,HE.2.1,?_⟩;obtain⟨y,wz,q1,q2,q3,q4,q5⟩:=HA.out;have a7:=HR.2.2.2.2.2.2.2.kept HT.1 ⟨HR.2.2.1,by omega⟩;have h9:=Us nj (pb:=pb) (B:=pb+1) (by omega) (by omega) HR.1 HR.2.2.2.1 HR.2.2.2.2.1 HR.2.2.2.2.2.1 HR.2.2.2.2.2.2.1 HT.1 q1 q2 q3 q4 q5;have kc:aa (fun b=>b≠rb) wt (wt.setCell ⟨rb,1,none⟩ (.slice A5 (J.length+1) c5)):=kR.setCell (.inl fun h=>h rfl) _;have j0:=a7.set 1 (.slice A5 (J.length+1) c5);simp only[ga] at j0;have a8:(J++[x]).length=J.length+1:=by simp
  have k6:∃m',m'≤R∧PB wt (pb+1) pb p A C R m':=HT.2.2;have b2:∀b,b≤pb→Value.ownBlock (.slice A1 J.length C1)≠some b:=fun b hb e=>by have:=(aD HR.1 e).1;omega
  have j2:GQt w rb pb p A C R I (J++[x]) (wt.setCell ⟨rb,1,none⟩ (.slice A5 (J.length+1) c5)):=by obtain⟨m2,a6,b4⟩:=k6;have b6:=cu.keep (kc.mono fun b (hb:rb+1+1<b∧b<pb)=>by show b≠rb;omega) (cu.keep (HT.1.mono fun b (hb:rb+1+1<b∧b<pb)=>⟨b2 b (by omega),by omega⟩) j.out.tk);exact⟨(j.out.kept.trans (HT.1.mono fun b (hb:b<w.heap.size)=>⟨b2 b (by omega),by omega⟩)).trans (kc.mono fun b (hb:b<w.heap.size)=>by show b≠rb;omega),⟨m2,a6,⟨b4.box.kept kc (by show pb≠rb;omega),cu.wide (fun b hb=>⟨by omega,by omega⟩) b6,b4.low,by have:=b4.size;have:=kc.size;omega,b4.le⟩⟩,⟨A0,C0,A5,c5,by rw[a8];exact j0,fun e=>by simp at e,qdy (qdy c9.1 HT.1 fun g hg=>by obtain⟨xs,ho⟩:=c9.1.own;exact⟨qcb ho HR.1 (by decide) hg,by have:=(aD ho hg).1;omega⟩) kc fun g hg=>by obtain⟨xs,ho⟩:=c9.1.own;have:=(aD ho hg).1;show g≠rb;omega,by rw[a8];exact h9.keep nj kc fun b h1 h2=>by show b≠rb;omega⟩,(j.out.z1.kept HT.1 ⟨b2 _ (by omega),by omega⟩).kept kc (by show rb+1≠rb;omega),(j.out.z2.kept HT.1 ⟨b2 _ (by omega),by omega⟩).kept kc (by show rb+1+1≠rb;omega),h6,b6⟩
  exact j2
 omega
end
def ex4:ByteArray:=bs [97,114,114,97,121,32,116,32,52,32,108,111,119,32,102,110,32,109,97,105,110,40,41,32,123,32,97,58,32,120,32,61,32,105,110,112,117,116,32,107,101,121,32,121,32,61,32,100,105,118,32,120,32,120,32,122,32,61,32,99,111,110,115,116,32,50,32,117,32,61,32,100,105,118,32,120,32,122,32,105,32,61,32,119,114,97,112,32,116,32,120,32,118,32,61,32,108,111,97,100,32,116,32,105,32,114,101,116,117,114,110,32,118,32,125]
def qci:dN:=(qcP ex4).getD ⟨[],[]⟩
def qaQ:aE:=qV qbm qci
theorem qdU:qcP ex4=some qci:=by kernel_rfl
theorem qhx:∀l,Tt ex4 (ex4.size+1) 0=some l→l.length≤4096:=of_decide_eq_true (by kernel_rfl)
theorem qhg:fV qci:=of_decide_eq_true (by kernel_rfl)
theorem qgj:BG qbm qci:=of_decide_eq_true (by kernel_rfl)
theorem qhR:dD qbm:=of_decide_eq_true (by kernel_rfl)
theorem qdb:bJ qbm qaQ:=of_decide_eq_true (by kernel_rfl)
theorem qiJ:oK qbm qaQ=(0,0,0):=by rw[nc qdb,Uc (by kernel_rfl)];kernel_rfl
theorem qiq:rK qaQ:=Vt (by kernel_rfl)
theorem sm4:lY qaQ:=Xs (by kernel_rfl)
theorem qhS:kj qbm:=by
 constructor;·exact of_decide_eq_true (by kernel_rfl)
 ·exact of_decide_eq_true (by kernel_rfl)
 exact of_decide_eq_true (by kernel_rfl)
theorem qgt:qaF qaQ=[⟨0,0,1,20,0⟩]:=by kernel_rfl
namespace Q
abbrev LM (w:World):Prop:=gz w∧Ws w
theorem LM.keep {w w':World}(h:LM w)(k:aa All w w'):LM w':=⟨h.1.keep k,h.2.keep k⟩
theorem qhT:VFL LM prog 20 [.s (.string qaY)] (·=.tup [.agg (qbn qbm),.s (.int .i64 0),.s (.int .i64 0)]):=qdd fun w hw g Y hh j=>by obtain⟨_,_,rfl,C,rfl⟩:=j.inv;cases C.of_s;refine(qbV w hw.1 hw.2).mono ?_;rintro e w' ⟨I,v,rfl,J⟩;exact⟨_,rfl,I,qgw (VRs.cons (qiv (fun b R o=>.inr R) J) (VRs.cons (.s _) (VRs.cons (.s _) VRs.nil)))⟩
theorem qhf {s:ByteArray}{q:dN}(hr:qcP s=some q)(hm:∀l,Tt s (s.size+1) 0=some l→l.length≤4096):VFL gz prog 21 [.s (.string s)] (·=.tup [.agg (qdV q),.s (.int .i64 0),.s (.int .i64 0)]):=qdd fun w hw g Y hh j=>by obtain⟨_,_,rfl,C,rfl⟩:=j.inv;cases C.of_s;refine(qcw s q w hr hm hw).mono ?_;rintro e w' ⟨I,v,rfl,J⟩;exact⟨_,rfl,I,qgw (VRs.cons (qhU (fun b R o=>.inr R) J) (VRs.cons (.s _) (VRs.cons (.s _) VRs.nil)))⟩
theorem qfx {p:aH}{q:dN}(C:qdu p)(I:qcX q)(hr:ot p q):VFL gz prog 22 [.agg (qbn p),.agg (qdV q)] (·=.tup [.agg (qaI (qV p q)),.any,.s (.int .i64 0)]):=qdd fun w hw g vs j J=>by obtain⟨_,_,rfl,R,_,_,rfl,Y,rfl⟩:=J.inv;refine(zc (fun b=>b<w.heap.size) _ _ p q w (qeV j.lt C R) (qgl j.lt I Y) hw fun b h=>h).mono ?_;rintro e w' ⟨hk,a1,n1,c1,a2,n2,c2,m,a,n,rfl,_,hy⟩;obtain⟨rfl,hc⟩:=hy hr;exact⟨_,rfl,hk,qgw (VRs.cons (qhG (fun b hb o=>.inr hb) hc) (VRs.cons (.any _) (VRs.cons (.s _) VRs.nil)))⟩
theorem qgm:ot qbm qci:=⟨qhR,qhg,qgj⟩
theorem qeX:qaL qbm qaQ:=by have h:=qiJ;rw[nc qdb] at h;exact⟨qdb,(zS (l:=qaQ.Nf) (i:=0)).1 (by rw[h])⟩
theorem in4 {w:World}(h:LM w):qdu qbm∧qcX qci∧qcW qaQ:=by obtain⟨_,Y,_,⟨C,v1,_,I⟩,_⟩:=(qbV w h.1 h.2) [];obtain⟨_,J,_,⟨j,v2,_,R⟩,_⟩:=(qcw ex4 qci Y qdU qhx (h.keep C).1) [];obtain⟨_,w3,_,⟨k3,a1,n1,c1,a2,n2,c2,m,a,n,_,_,h3⟩,_⟩:=(zc (fun b=>b<J.heap.size) v1 v2 qbm qci J (cB.wide (fun b o=>Nat.lt_of_lt_of_le o.2 j.size) (cB.keep j.all I)) (sI.wide (fun b o=>o.2) R) ((h.keep C).keep j).1 fun b h=>h) [];exact⟨qgi I,qfv R,qfg (h3 qgm).2⟩
theorem qdW {w:World}(h:LM w):qbf qbm qaQ:=⟨(in4 h).1,(in4 h).2.2,qhS,sm4,Dr names qiq⟩
theorem qgu:qaL qbm qaQ→(qaF qaQ).length*40≤140737488355328:=fun h=>by have:=qcS h.1;omega
theorem qhC {w:World}(h:LM w):VFL gz prog 8 [.agg (qbn qbm),.agg (qaI qaQ)] (·=.tup [.row 5 40 [[.s (.int .i64 0),.s (.int .i64 0),.s (.int .i64 1),.s (.int .i64 20),.s (.int .i64 0)]] none,.s (.int .i64 0)]):=by have h:=qeI qbm qaQ (qdW h) (fun h b j=>qbF h.1 j) qgu;unfold qeg at h;rw[ap qeX,qgt] at h;exact h
theorem qhl {w:World}(h:LM w):VFL gz prog 14 [.agg (qbn qbm),.agg (qaI qaQ),.s (.int .i64 0),.s (.int .i64 0),.s (.int .i64 3)] (·=.s (.bool true)):=by
 have h:=qgq qbm qaQ 0 0 3 (qdW h) (fun h b o=>qbF h.1 o) qgu;have e:∃b l,qaQ.Nf[(0:Int).toNat]? =some b∧b.Ng[(0:Int).toNat]? =some l∧(3:Int)<l.length:=by
  have e:((qaQ.Nf[0]?.bind fun b=>b.Ng[0]?).map List.length)=some 7:=by kernel_rfl
  obtain⟨l,C,h2⟩:=oE.1 e;obtain⟨b,I,J⟩:=Option.bind_eq_some_iff.1 C;exact⟨b,l,I,J,by omega⟩
 obtain⟨b,l,R,Y,e3⟩:=e;rwa [av ⟨qeX,b,l,by decide,by decide,by decide,R,Y,e3,fun s j=>by rw[qgt,cx] at j;subst j;rfl⟩] at h
theorem qgk (N:Nat)(q:dN):∀x∈qdV q,Lt N x:=by simp[LT,qin,qhw,qfO,qio]
theorem qgN:VFL LM prog 12 [] (·=.s (.bool true)):=by refine qbX [0] func12 rfl Tryz.results12 ntmps12 rfl fun g w o C=>?_;obtain⟨i1,i2,i3⟩:=in4 o;refine st ?_;refine qaP (fun j w' hle=>qhT w' (LM.keep o (C j w' hle))) ?_;refine st ?_;refine qaP (fun j w' hle=>qhf qdU qhx w' (LM.keep o (C j w' hle)).1) ?_;refine st ?_;refine qaP (fun j w' hle=>qfx i1 i2 qgm w' (LM.keep o (C j w' hle)).1) ?_ (hl:=al1 (.agg _ (qas 0 _)) (al1 (.agg _ (qgk 0 _)) al0));refine st ?_;refine qaP (fun j w' hle=>qhC o w' (LM.keep o (C j w' hle)).1) ?_ (hl:=al1 (.agg _ (qas 0 _)) (al1 (.agg _ (qar 0 _)) al0));refine st ?_;refine qaP (fun j w' hle=>qhl o w' (LM.keep o (C j w' hle)).1) ?_ (hl:=al1 (.agg _ (qas 0 _)) (al1 (.agg _ (qar 0 _)) (al1 (.s _) (al1 (.s _) (al1 (.s _) al0)))));refine st ?_;exact qaw ⟨.inl rfl,[.s (.bool true)],_,rfl,Ros.cons (.lt _ (.s _)) Ros.nil,rfl⟩
end Q
section
namespace Q
theorem qid {C:Cx}{T:VT}{H:List HO}{Q:VQ}{ops:Array Oper}{l:List Oper}{t:Nat}{ty:TypeId}{pos:String}{J:Array Edge}{f:FuncId}{Y:List V}{args:Array Operand}{j:Array TypeId}(R:Value→Prop)(h:∀g w vs,Le C.g C.w g w→HR g w H→VRs g w Y vs→Calls C.P f vs.toArray w fun e w'=>∃r,e=.returned r∧R r∧aa All w w')(k:∀r,R r→VO none C ops Q l ((t,.s r)::T) H)(ha:args.toList.mapM (ev T)=some Y:=by rfl)(hf:∀zs w,(callFunc f zs).run C.P w=.ok (.enter f zs) w:=by intro zs w;go_simp)(ht:Nat.blt t C.n=true:=by rfl):VO none C ops Q (⟨some t,.call {callee:=.value (.func f),args:=args,argTypes:=j},ty,pos,J,none⟩::l) T H:=⟨fun g a w I=>by
 simp only[wpList,qaS (o:=⟨some t,.call {callee:=.value (.func f),args:=args,argTypes:=j},ty,pos,J,none⟩) rfl,if_true];left;unfold Oper.wp;have h3:=qbD I _ _ ha;have hr:(execOp a.eval ⟨some t,.call {callee:=.value (.func f),args:=args,argTypes:=j},ty,pos,J,none⟩).run C.P w=.ok (.enter f (args.toList.map a.eval).toArray) w:=by simp only[execOp,resolve,Act.eval,Deferred.ofValue,Sem.run_bind,Sem.run_pure,Result.andThen_ok,invoke,hf];cases args;simp
 rw[hr];simp only[Oper.upon];refine(h g w _ I.le I.hr h3).mono ?_;rintro e w' ⟨r,rfl,hR,hk⟩;exact(k r hR).out _ _ _ (I.put (Le.frz I.hr hk) (HR.frz I.hr hk) (.s r) (bl ht))⟩
open Classical in
noncomputable def qbe (p:aH)(c:aE):List qaJ:=if qaL p c then qaF c else []
theorem qbA {p:aH}{c:aE}(h:qaL p c):(qaF c).length*40≤140737488355328:=by have:=qcS h.1;omega
theorem qim (p:aH)(c:aE)(o:qbf p c):∃er:Int,VFL gz prog 8 [.agg (qbn p),.agg (qaI c)] (·=.tup [.row 5 40 ((qbe p c).map qaH) none,.s (.int .i64 er)]):=by
 have h:=qeI p c o (fun h b j=>qbF h.1 j) qbA;unfold qeg at h;unfold qbe;by_cases hr:qaL p c
 ·rw[ap hr] at h
  rw[ap hr];exact⟨0,h⟩
 rw[ae hr] at h;rw[ae hr];refine⟨1,fun w hw g C I J=>(h w hw g C I J).mono ?_⟩;rintro e w' ⟨v,x,R,H',rfl,⟨rfl,rfl⟩,Y,hle,hr⟩;refine⟨v,_,R,[],rfl,⟨rfl,rfl⟩,?_,hle,hr⟩;cases Y with
 |tup _ us hl h=>obtain⟨a,_,rfl,ha,b,_,rfl,j,rfl⟩:=VRs.inv ⟨hl,h⟩;cases ha.of_s;exact .tup _ _ rfl (VRs.cons (qgR 5 40) (VRs.cons j VRs.nil)).2
theorem qhX {p:aH}{c:aE}{g:Gh}{w:World}{H:List HO}{j:List Value}(o:qbf p c)(C:HR g w H)(I:VRs g w [.agg (qaI c),.s (.int .i64 300)] j):Calls prog 7 j.toArray w fun e w'=>∃r,e=.returned r∧(∃b:Bool,r=.bool b∧(b=true→MH c))∧aa All w w':=by obtain⟨_,_,rfl,J,_,_,rfl,R,rfl⟩:=I.inv;cases R.of_s;refine(Hk (fun b=>b<w.heap.size) _ c w (qdD C.lt o.code J)).mono ?_;rintro e w' ⟨b,rfl,Y,hk⟩;exact⟨_,rfl,⟨b,rfl,Y⟩,hk⟩
end Q
end
end Go.Proofs.YtgdlhckhpolnnaaGreatDoor
