/- Part 45 of the proof (its last part says what is proved). No condition. -/
import Derived.Test.YtgdlhckhpolnnaaGreatDoorK43
namespace Go.Proofs.YtgdlhckhpolnnaaGreatDoor
set_option maxRecDepth 100000
set_option maxHeartbeats 8000000
open Go.RowKit Go.Proofs.Tryz
section
theorem qgO (f:FuncId)(g:Nat)(w:World):(binOp .neq 269 (.func (.func f) #[] #[.pointer (some ⟨g,0,none⟩)]) .nilFunc).run prog w=.ok (.bool true) w:=by kernel_rfl
attribute [local go_sem] Xf qgO
theorem pvw (F:FuncId)(B pb I:Nat)(p:cr)(A:Option Addr)(C k m k':Nat)(x x':cX)(w:World)(h:PB w B pb p A C k m)(hx:Uh w B I x)(hp:p.Ok)(hl:gz w)(hs:XY (p.txt k)=false)(hF:F=253∨F=254∨F=255∨F=256∨F=257)(Y:p.txt k≠gR)
 (j:∀g4 g5,TH (Tz g4 g5) (p.txt k)=some (.func (.func F) #[] #[]))
 (hc:∀W,PB W B pb p A C (k+1) m→Uh W B I x→Calls prog F #[.pointer (some ⟨pb,0,none⟩),.pointer (some ⟨I,0,none⟩)] W (Ua B pb I p A C m k' x' W)):
 Calls prog 196 #[.pointer (some ⟨pb,0,none⟩),.pointer (some ⟨I,0,none⟩)] w (Ua B pb I p A C m k' x' w):=by
 have H0:=J2 (St.first h hx) hl;have hlen:=hp.len;have a8:=TM (p:=p) (k:=k) Y;have b0:=(TJ hp k).2;have HQ:=J3 hs j hc;clear h hx hl hs j hc Y;go_enter func196,ntmps196;go_wp2_with fail;refine(xt pb p A C k m 0 w H0.1.par.pat hp (by omega)).mono ?_;rintro e w1 ⟨rfl,J⟩;rw[dj];have H1:=J2 (H0.1.all J) (H0.2.keep J);clear J;go_wp2_with fail;refine(qcp (p.txt k) w1 H1.2).mono ?_;rintro e w2 ⟨rfl,rfl⟩;rw[HQ.1];go_wp2_with fail;refine(qbB w1).mono ?_;rintro e w3 ⟨b,g4,g5,rfl,o,a1,_,_⟩;have H3:=oH (H1.1.all a1);have j:=Ux (p.txt k) (by unfold maxLen;omega) o;rw[HQ.2.1 g4 g5] at j;rw[show(some (Value.func (.func F) #[] #[])).getD .nilFunc=.func (.func F) #[] #[] from rfl] at j;have R:=H3.out.par.box;have b2:=R.cl 2;have f2:=R.free 2;clear a1 o R;go_upto_region 11 with fail;have a6:wi pb p A C (k+1) m w3 (w3.setCell ⟨pb,2,none⟩ (.int .i64 ((k+1:Nat)))):=wi.of H3.out.par.pat kR (by omega);have H4:=oH (show St w B pb I p A C m (k+1) x (w3.setCell ⟨pb,2,none⟩ (.int .i64 ((k:Int)+1))) by simpa using H3.out.moved a6);clear a6;generalize w3.setCell _ _=W4 at*;clear b2 f2 j;rcases hF with rfl|rfl|rfl|rfl|rfl
 all_goals
  go_wp2_with fail;refine(HQ.2.2 W4 H4.out.par H4.out.Nb).mono ?_;rintro e W5 ⟨rfl,a7⟩;have H5:=oH (Ts H4.out a7);clear a7;go_wp2_with fail
  go_end0
  exact⟨rfl,H5.out⟩
theorem pvc (R:Nat→Nat→Nat)(n:Nat)(B pb Y:Nat)(p:cr)(A:Option Addr)(C k m k':Nat)(x x':cX)(w:World)(h:PB w B pb p A C k m)(hx:Uh w B Y x)(hp:p.Ok)(hl:gz w)(hs:XY (p.txt k)=false)(a7:p.txt k≠gR)
 (j:∀g4 g5,TH (Tz g4 g5) (p.txt k)=some (.func (.func 252) #[] #[.pointer (some ⟨R g4 g5,0,none⟩)]))
 (I:∀w g4 g5,al w g4 5 #[.int .u8 4]→al w g5 5 #[.int .u8 5]→al w (R g4 g5) 5 #[.int .u8 n])
 (hc:∀W g,al W g 5 #[.int .u8 n]→PB W B pb p A C (k+1) m→Uh W B Y x→Calls prog 252 #[.pointer (some ⟨pb,0,none⟩),.pointer (some ⟨Y,0,none⟩),.pointer (some ⟨g,0,none⟩)] W (Ua B pb Y p A C m k' x' W)):
 Calls prog 196 #[.pointer (some ⟨pb,0,none⟩),.pointer (some ⟨Y,0,none⟩)] w (Ua B pb Y p A C m k' x' w):=by
 have H0:=J2 (St.first h hx) hl;have hlen:=hp.len;have b6:=TM (p:=p) (k:=k) a7;have b7:=(TJ hp k).2;have HQ:=J4 hs j hc I;clear h hx hl hs j hc a7 I;go_enter func196,ntmps196;go_wp2_with fail;refine(xt pb p A C k m 0 w H0.1.par.pat hp (by omega)).mono ?_;rintro e w1 ⟨rfl,a1⟩;rw[dj];have H1:=J2 (H0.1.all a1) (H0.2.keep a1);clear a1;go_wp2_with fail;refine(qcp (p.txt k) w1 H1.2).mono ?_;rintro e w2 ⟨rfl,rfl⟩;rw[HQ.1];go_wp2_with fail;refine(qbB w1).mono ?_;rintro e w3 ⟨b,g4,g5,rfl,J,a8,b0,b1⟩;have H3:=oH (H1.1.all a8);have j:=Ux (p.txt k) (by unfold maxLen;omega) J;have HG:=oH (HQ.2.2.2 w3 g4 g5 b0 b1);rw[HQ.2.1 g4 g5] at j;generalize R g4 g5=g at*;rw[show(some (Value.func (.func 252) #[] #[.pointer (some ⟨g,0,none⟩)])).getD .nilFunc=.func (.func 252) #[] #[.pointer (some ⟨g,0,none⟩)] from rfl] at j;have o:=H3.out.par.box;have b3:g≠pb:=HG.out.ne o (by decide);have b2:=o.cl 2;have f2:=o.free 2;clear a8 J o b0 b1;go_upto_region 11 with fail;have a6:wi pb p A C (k+1) m w3 (w3.setCell ⟨pb,2,none⟩ (.int .i64 ((k+1:Nat)))):=wi.of H3.out.par.pat kR (by omega);have b4:=HG.out.kept a6.1 b3;have H4:=J2 (show St w B pb Y p A C m (k+1) x (w3.setCell ⟨pb,2,none⟩ (.int .i64 ((k:Int)+1))) by simpa using H3.out.moved a6) (show al (w3.setCell ⟨pb,2,none⟩ (.int .i64 ((k:Int)+1))) g 5 #[.int .u8 n] by simpa using b4);clear a6 b4 b3;generalize w3.setCell _ _=W4 at*;clear b2 f2 j;go_wp2_with fail;refine(HQ.2.2.1 W4 g H4.2 H4.1.par H4.1.Nb).mono ?_;rintro e W5 ⟨rfl,b5⟩;have H5:=oH (Ts H4.1 b5);clear b5;go_wp2_with fail
 go_end0
 exact⟨rfl,H5.out⟩
end
theorem qiP (B pb xb:Nat)(p:cr)(A:Option Addr)(C k m:Nat)(x:cX)(w:World)(h:PB w B pb p A C k m)(hx:Uh w B xb x)(hp:p.Ok)(hl:gz w)(o:XY (p.txt k)=true)(c1:p.is (k+1) 1=true)(c4:p.is (k+1+1) 1=true)(d7:x.args.length≤1000):
 Calls prog 196 #[.pointer (some ⟨pb,0,none⟩),.pointer (some ⟨xb,0,none⟩)] w (Ua B pb xb p A C m (k+1+1+1) {x with kind:=2,op:=qbU (p.txt k),args:=x.args++[p.txt (k+1),p.txt (k+1+1)]} w):=by
 obtain⟨iS,IS⟩:=iH UP;have H0:=J2 (St.first h hx) hl;have hlen:=hp.len;have d8:=TM (p:=p) (k:=k) (by intro e;rw[e,show XY gR=false by kernel_rfl] at o;cases o);have d9:=(TJ hp k).2;have HQ:=oH o;clear h hx hl o;go_enter func196,ntmps196;go_wp2_with fail;refine(xt pb p A C k m 0 w H0.1.par.pat hp (by omega)).mono ?_;rintro e w1 ⟨rfl,b4⟩;rw[dj];have H1:=J2 (H0.1.all b4) (H0.2.keep b4);clear b4;go_wp2_with fail;refine(qcp (p.txt k) w1 H1.2).mono ?_;rintro e w2 ⟨rfl,rfl⟩;rw[HQ.out];go_wp2_with fail;refine(qbB w1).mono ?_;rintro e w3 ⟨b,g4,g5,rfl,b3,b7,_,_⟩;have H3:=oH (H1.1.all b7);have b8:=Ux (p.txt k) (by unfold maxLen;omega) b3;generalize (TH (Tz g4 g5) (p.txt k)).getD .nilFunc=fv at b8;have b6:=H3.out.par.box;have b2:=b6.cl 2;have f2:=b6.free 2;clear b7 b3 b6;go_upto_region 6 with fail;have b9:wi pb p A C (k+1) m w3 (w3.setCell ⟨pb,2,none⟩ (.int .i64 ((k+1:Nat)))):=wi.of H3.out.par.pat kR (by omega);have H4:=oH (show St w B pb xb p A C m (k+1) x (w3.setCell ⟨pb,2,none⟩ (.int .i64 ((k:Int)+1))) by simpa using H3.out.moved b9);clear b9;generalize w3.setCell _ _=W4 at*;clear b2 f2 b8;obtain⟨u0,c6⟩:=H4.out.Nb.cellAt 0 (by decide);have c7:=H4.out.Nb.free 0;obtain⟨u1,c8⟩:=H4.out.Nb.cellAt 1 (by decide);have c9:=H4.out.Nb.free 1;go_upto_region 7 with fail;have h2:=(H4.out.set 0 (.int .u8 2) (x':= {x with kind:=2}) rfl rfl (fun _ _=>rfl)).set 1 (.int .u8 (qbU (p.txt k))) (x':= {x with kind:=2,op:=qbU (p.txt k)}) rfl rfl (fun _ _=>rfl);generalize World.setCell (World.setCell W4 _ _) _ _=W5 at*;have H5:=oH h2;clear h2 c6 c7 c8 c9;obtain⟨aA,aC,fA,fC,hb,ra,rf,R,a1⟩:=H5.out.Nb;have HC:=oH (fun wn (hn:PB wn B pb p A C (k+1) m)=>xi pb p A C _ m wn hn.pat hp c1);have HV:=oH (fun wn (hn:aa (fun i=>(Value.ownBlock (.slice aA (x).args.length aC))≠some i∧i≠pb) W5 wn)=>show wn.cell? ⟨xb,5,none⟩=some (.slice aA (x).args.length aC) from(hb.kept hn ⟨eo ra hb (by decide),H5.out.ne⟩).cell 5);have HG:=oH (Ue (k:=k+1) (S:=fun y=>y=.string (p.txt (k+1))) H5.out.par ra);have HR:=J3 ra (show PB W5.drew B pb p A C (if false=true then(k+1)+1 else(k+1)) m from H5.out.par.kept (S:=All) kR.drew fun _ _=>trivial) H5.out.par.size;have I:=J4 hb rf R a1;clear hb ra rf R a1;refine hH 11 6 [7,8] (SY W5 (fun i=>i≠pb) B 9 1 (.slice aA (x).args.length aC) (x).args.length ((x).args.map Value.string) (fun b w=>PB w B pb p A C (if b then(k+1)+1 else(k+1)) m)) [42,43,44] (FY W5 (fun i=>i≠pb) B 9 1 (.slice aA (x).args.length aC) (x).args.length ((x).args.map Value.string) (fun y=>[y]) (fun y _=>y=.string (p.txt (k+1))) 43 42) (fun i=>if i=6 then some (fun y=>y=.string (p.txt (k+1))) else if i=7 then some Oa else if i=8 then some (NT (x).args.length) else none) (fun _=>false) (fun _ _=>False) (by kernel_rfl) (by kernel_rfl) (by kernel_rfl) (by kernel_rfl) (VJ _ _ _) (by kernel_rfl) (by decide) (SY.first HR.1 HR.2.1) (fun _ _ _ h=>h.elim) ?_;simp only[tK];iterate 6 refine OY (fun b wn o hp=>by(have q:=HV.out wn o.1;skip;go_simp;with_reducible rfl)) ?_
 refine Hy (V:=(fun y=>y=.string (p.txt (k+1)))) HG.out (by rfl) (by rfl) (by rfl) rfl (by decide) (fun wn o=>⟨_,_,by(have q:=HV.out wn o.1;go_simp<;>with_reducible rfl),(HC.out wn o.2.2).mono fun e w' h=>⟨_,h.1,rfl,h.2.1,o.2.2.moved h.2,rfl⟩⟩) ?_;rintro u rfl;simp only[PS];refine Tv HG.out (by decide) (by rfl) (by rfl) (by rfl) rfl (by decide) _ rfl (by decide) (fun wn o=>by(skip;go_simp<;>with_reducible rfl)) ?_;intro g;simp only[PS];refine Tu HG.out (by decide) (by rfl) (by rfl) (by rfl) rfl (by decide) (by decide) (.tmp 40) 22 rfl iS _ 16 underlying22 IS.1 IS.2.1 IS.2.2.1 IS.2.2.2 rfl (by decide) rfl g rfl (by decide) (fun y w hy=>by subst hy;exact⟨rfl,fun u hu=>by rw[cx.1 hu];rfl⟩) (by unfold maxLen;show x.args.length+1≤_;omega) (by show(x.args.length+1)*16≤_;omega) HR.2.2 ?_;intro A5 c5;simp only[PS];iterate 2 refine OY (fun b wn o hp=>by(have q:=HV.out wn o.1;skip;go_simp;with_reducible rfl)) ?_
 refine TE fun wt a6 hF=>?_;have J:=hF 44 (by simp) _ rfl;unfold FY at J;rw[ae (by decide),ae (by decide)] at J;have HT:=oH (show SY _ _ _ _ _ _ _ _ _ _ _ from a6);have HA:=oH J;clear a6 hF J;simp only[dK];have j:=I.1.kept HT.1 ⟨eo HR.1 I.1 (by decide),H5.out.ne⟩;have b5:=j.cl 5;have f5:=j.free 5;clear j;go_upto_region 8 with fail;obtain⟨y,wz,q1,rfl,q3,q4,q5⟩:=HA.out;have j:=I.1.kept HT.1 ⟨eo HR.1 I.1 (by decide),H5.out.ne⟩;have a7:=be I.2.1 HT.1 fun g hg=>⟨fun e=>I.2.2.1 g e hg,by rintro rfl;exact eo I.2.1 H5.out.par.box (by decide) hg⟩;have hX:=Uh.put_args (x:= {x with kind:=2,op:=qbU (p.txt k)}) j q1 a7 (UL I.2.1 I.2.2.1 q3 q5) I.2.2.2;have a8:=Vy H5.out HR.1 HT.1 HT.2.2 hX;generalize wt.setCell _ _=b0 at*;have H6:=oH a8;clear j a7 hX a8 q1 q3 q4 q5 b5 f5 HA HT I HR HG HV HC;obtain⟨Y,b1⟩:∃Y:cX,Y= {x with kind:=2,op:=qbU (p.txt k),args:=x.args++[p.txt (k+1)]}:=⟨_,rfl⟩;rw[←b1] at H6;have e0:Y.args.length≤1001:=by rw[b1];show(x.args++[p.txt (k+1)]).length≤1001;simp;omega
 have c0:=oH b1;clear b1;obtain⟨aA,aC,fA,fC,hb,ra,rf,R,a1⟩:=H6.out.Nb;have HC:=oH (fun wn (hn:PB wn B pb p A C (k+1+1) m)=>xi pb p A C _ m wn hn.pat hp c4);have HV:=oH (fun wn (hn:aa (fun i=>(Value.ownBlock (.slice aA (Y).args.length aC))≠some i∧i≠pb) b0 wn)=>show wn.cell? ⟨xb,5,none⟩=some (.slice aA (Y).args.length aC) from(hb.kept hn ⟨eo ra hb (by decide),H6.out.ne⟩).cell 5);have HG:=oH (Ue (k:=k+1+1) (S:=fun y=>y=.string (p.txt (k+1+1))) H6.out.par ra);have HR:=J3 ra (show PB b0.drew B pb p A C (if false=true then(k+1+1)+1 else(k+1+1)) m from H6.out.par.kept (S:=All) kR.drew fun _ _=>trivial) H6.out.par.size;have I:=J4 hb rf R a1;clear hb ra rf R a1;refine hH 11 6 [7,8] (SY b0 (fun i=>i≠pb) B 9 1 (.slice aA (Y).args.length aC) (Y).args.length ((Y).args.map Value.string) (fun b w=>PB w B pb p A C (if b then(k+1+1)+1 else(k+1+1)) m)) [53,54,55] (FY b0 (fun i=>i≠pb) B 9 1 (.slice aA (Y).args.length aC) (Y).args.length ((Y).args.map Value.string) (fun y=>[y]) (fun y _=>y=.string (p.txt (k+1+1))) 54 53) (fun i=>if i=6 then some (fun y=>y=.string (p.txt (k+1+1))) else if i=7 then some Oa else if i=8 then some (NT (Y).args.length) else none) (fun _=>false) (fun _ _=>False) (by kernel_rfl) (by kernel_rfl) (by kernel_rfl) (by kernel_rfl) (VJ _ _ _) (by kernel_rfl) (by decide) (SY.first HR.1 HR.2.1) (fun _ _ _ h=>h.elim) ?_;simp only[tK];iterate 6 refine OY (fun b wn o hp=>by(have q:=HV.out wn o.1;skip;go_simp;with_reducible rfl)) ?_
 refine Hy (V:=(fun y=>y=.string (p.txt (k+1+1)))) HG.out (by rfl) (by rfl) (by rfl) rfl (by decide) (fun wn o=>⟨_,_,by(have q:=HV.out wn o.1;go_simp<;>with_reducible rfl),(HC.out wn o.2.2).mono fun e w' h=>⟨_,h.1,rfl,h.2.1,o.2.2.moved h.2,rfl⟩⟩) ?_;rintro u rfl;simp only[PS];refine Tv HG.out (by decide) (by rfl) (by rfl) (by rfl) rfl (by decide) _ rfl (by decide) (fun wn o=>by(skip;go_simp<;>with_reducible rfl)) ?_;intro g;simp only[PS];refine Tu HG.out (by decide) (by rfl) (by rfl) (by rfl) rfl (by decide) (by decide) (.tmp 51) 22 rfl iS _ 16 underlying22 IS.1 IS.2.1 IS.2.2.1 IS.2.2.2 rfl (by decide) rfl g rfl (by decide) (fun y w hy=>by subst hy;exact⟨rfl,fun u hu=>by rw[cx.1 hu];rfl⟩) (by unfold maxLen;show Y.args.length+1≤_;omega) (by show(Y.args.length+1)*16≤_;omega) HR.2.2 ?_;intro A5 c5;simp only[PS];iterate 2 refine OY (fun b wn o hp=>by(have q:=HV.out wn o.1;skip;go_simp;with_reducible rfl)) ?_
 refine TE fun wt a6 hF=>?_;have J:=hF 55 (by simp) _ rfl;unfold FY at J;rw[ae (by decide),ae (by decide)] at J;have HT:=oH (show SY _ _ _ _ _ _ _ _ _ _ _ from a6);have HA:=oH J;clear a6 hF J;simp only[dK];have j:=I.1.kept HT.1 ⟨eo HR.1 I.1 (by decide),H6.out.ne⟩;have b5:=j.cl 5;have f5:=j.free 5;clear j;go_wp2_with fail
 go_end0
 obtain⟨y,wz,q1,rfl,q3,q4,q5⟩:=HA.out;have j:=I.1.kept HT.1 ⟨eo HR.1 I.1 (by decide),H6.out.ne⟩;have a7:=be I.2.1 HT.1 fun g hg=>⟨fun e=>I.2.2.1 g e hg,by rintro rfl;exact eo I.2.1 H6.out.par.box (by decide) hg⟩;have hX:=Uh.put_args (x:=Y) j q1 a7 (UL I.2.1 I.2.2.1 q3 q5) I.2.2.2;have a8:=Vy H6.out HR.1 HT.1 HT.2.2 hX;exact⟨rfl,by have e1:=c0.out;clear c0;subst e1;rw[show x.args++[p.txt (k+1),p.txt (k+1+1)]=x.args++[p.txt (k+1)]++[p.txt (k+1+1)] by simp];exact a8⟩
def qfL:ByteArray:=bs [108,111,97,100]
def qfM:ByteArray:=bs [119,114,97,112]
def qei:ByteArray:=bs [105,110,112,117,116]
def qfK:ByteArray:=bs [99,97,108,108]
def qcq:ByteArray:=bs [114,101,108,101,97,115,101]
def qej:ByteArray:=bs [115,116,111,114,101]
def qcZ:ByteArray:=bs [111,117,116,112,117,116]
def qfJ:ByteArray:=bs [97,114,114,97,121]
def qcd (p:cr)(x:cX)(k:Nat):Option (cX×Nat):=
 if XY (p.txt k)=true then do
  let(a,j)←Ty p 1 (k+1)
  let(b,o)←Ty p 1 j
  some ({x with kind:=2,op:=qbU (p.txt k),args:=x.args++[a,b]},o)
 else if p.txt k=qfL then do
  let(a,j)←Ty p 1 (k+1)
  let(b,o)←Ty p 1 j
  some ({x with kind:=4,ref:=a,args:=[b]},o)
 else if p.txt k=qfM then do
  let(a,j)←Ty p 1 (k+1)
  let(b,o)←Ty p 1 j
  some ({x with kind:=5,ref:=a,args:=[b]},o)
 else if p.txt k=qei then do
  let(a,j)←Ty p 1 (k+1)
  some ({x with kind:=8,ref:=a},j)
 else if p.txt k=qfK then do
  let(a,j)←Ty p 1 (k+1)
  let(l,o)←qbl p j
  some ({x with kind:=7,ref:=a,args:=l},o)
 else if p.txt k=qcq then do
  let(a,j)←Ty p 1 (k+1)
  let(b,o)←Ty p 1 j
  some ({x with kind:=10,args:=[a],ref:=b},o)
 else Uz p x k
def qfe (p:cr)(x:cX)(k:Nat):Option (cX×Nat):=
 if p.txt k=qej then do
  let(s,j)←Ty p 1 (k+1)
  let(a,o)←Ty p 1 j
  let(b,C)←Ty p 1 o
  some ({x with kind:=6,ref:=s,args:=x.args++[a,b]},C)
 else if p.txt k=qcZ then do
  let(s,j)←Ty p 1 (k+1)
  let(a,o)←Ty p 1 j
  some ({x with kind:=9,ref:=s,args:=x.args++[a]},o)
 else Yl p x k
def qbv (p:cr)(k:Nat):Option (cX×Nat):=
 if p.is k 1=true then(if p.txt (k+1)=YA then qcd p {Va with dst:=p.txt k,Nj:=p.pos k} (k+1+1) else none)
 else qfe p {Va with Nj:=p.pos k} k
theorem qap {p:cr}{q k:Nat}{r:ByteArray×Nat}(h:Ty p q k=some r):p.is k q=true∧r=(p.txt k,k+1):=by
 unfold Ty at h;split at h;·rename_i j;cases h;exact⟨j,rfl⟩
 cases h
theorem qdN {p:cr}:∀ {f n k:Nat} {l j:List ByteArray} {k':Nat},qcu p f n k l=some (j,k')→j.length≤l.length+f
 |0,_,_,_,_,_,h=>by cases h
 |f+1,n,k,l,j,k',h=>by(
 obtain⟨_,_,o⟩:=qca h;split at o
 ·have I:=qdN o
  rw[iQ] at I;have C:[p.txt k].length=1:=rfl;omega
 injection o with C J;subst C;rw[iQ];have C:[p.txt k].length=1:=rfl;omega)
theorem qcs {p:cr}{k k':Nat}{l:List ByteArray}(h:qbl p k=some (l,k')):l.length≤7:=by
 obtain⟨_,j,o,_⟩:=qby h;rcases o with ⟨_,rfl,_⟩|⟨_,o⟩;·exact Nat.zero_le _
 have:=qdN o;have e:([]:List ByteArray).length=0:=rfl;omega
theorem qeE (B pb o:Nat)(p:cr)(A:Option Addr)(C k m k':Nat)(x x':cX)(w:World)(h:PB w B pb p A C k m)(hx:Uh w B o x)(I:p.Ok)(hl:gz w)(ha:x.args=[])(hf:x.Nh=[])(hr:qcd p x k=some (x',k')):
 Calls prog 196 #[.pointer (some ⟨pb,0,none⟩),.pointer (some ⟨o,0,none⟩)] w (Ua B pb o p A C m k' x' w)∧x'.args.length≤1000∧x'.Nh.length≤1000:=by
 have h0:x.args.length≤2:=by rw[ha];decide
 have a8:x.Nh.length≤2:=by rw[hf];decide
 unfold qcd at hr;by_cases a1:XY (p.txt k)=true;·rw[ap a1] at hr;obtain⟨⟨a,k1⟩,Y,hr⟩:=Option.bind_eq_some_iff.1 hr;obtain⟨q1,e⟩:=qap Y;cases e;obtain⟨⟨b,k2⟩,h2,hr⟩:=Option.bind_eq_some_iff.1 hr;obtain⟨q2,e⟩:=qap h2;cases e;cases hr;exact⟨qiP B pb o p A C k m x w h hx I hl a1 q1 q2 (by omega),by show(x.args++[_,_]).length≤_;rw[iQ];show _+2≤_;omega,by show x.Nh.length≤_;omega⟩
 rw[ae a1] at hr;have j:XY (p.txt k)=false:=by simpa using a1
 by_cases hw:p.txt k=qfL;·rw[ap hw] at hr;obtain⟨⟨a,k1⟩,Y,hr⟩:=Option.bind_eq_some_iff.1 hr;obtain⟨q1,e⟩:=qap Y;cases e;obtain⟨⟨b,k2⟩,h2,hr⟩:=Option.bind_eq_some_iff.1 hr;obtain⟨q2,e⟩:=qap h2;cases e;cases hr;exact⟨pvc (fun g4 _=>g4) 4 B pb o p A C k m _ x _ w h hx I hl j (by rw[hw];decide) (fun _ _=>by rw[hw];rfl) (fun _ _ _ h _=>h) fun W g hg J R=>qcF B pb o g 4 p A C (k+1) m x W J R I hg q1 q2,by show(1:Nat)≤1000;decide,by show x.Nh.length≤_;omega⟩
 rw[ae hw] at hr;clear hw;by_cases hw:p.txt k=qfM;·rw[ap hw] at hr;obtain⟨⟨a,k1⟩,Y,hr⟩:=Option.bind_eq_some_iff.1 hr;obtain⟨q1,e⟩:=qap Y;cases e;obtain⟨⟨b,k2⟩,h2,hr⟩:=Option.bind_eq_some_iff.1 hr;obtain⟨q2,e⟩:=qap h2;cases e;cases hr;exact⟨pvc (fun _ g5=>g5) 5 B pb o p A C k m _ x _ w h hx I hl j (by rw[hw];decide) (fun _ _=>by rw[hw];rfl) (fun _ _ _ _ h=>h) fun W g hg J R=>qcF B pb o g 5 p A C (k+1) m x W J R I hg q1 q2,by show(1:Nat)≤1000;decide,by show x.Nh.length≤_;omega⟩
 rw[ae hw] at hr;clear hw;by_cases hw:p.txt k=qei;·rw[ap hw] at hr;obtain⟨⟨a,k1⟩,Y,hr⟩:=Option.bind_eq_some_iff.1 hr;obtain⟨q1,e⟩:=qap Y;cases e;cases hr;exact⟨pvw 254 B pb o p A C k m _ x _ w h hx I hl j (by simp) (by rw[hw];decide) (fun _ _=>by rw[hw];rfl) fun W J R=>qef B pb o p A C (k+1) m x W J R I q1,by show x.args.length≤_;omega,by show x.Nh.length≤_;omega⟩
 rw[ae hw] at hr;clear hw;by_cases hw:p.txt k=qfK;·rw[ap hw] at hr;obtain⟨⟨a,k1⟩,Y,hr⟩:=Option.bind_eq_some_iff.1 hr;obtain⟨q1,e⟩:=qap Y;cases e;obtain⟨⟨l,k2⟩,h2,hr⟩:=Option.bind_eq_some_iff.1 hr;cases hr;exact⟨pvw 255 B pb o p A C k m _ x _ w h hx I hl j (by simp) (by rw[hw];decide) (fun _ _=>by rw[hw];rfl) fun W J R=>qfd B pb o p A C (k+1) m _ x l W J R I q1 h2,by have:=qcs h2;show l.length≤_;omega,by show x.Nh.length≤_;omega⟩
 rw[ae hw] at hr;clear hw;by_cases hw:p.txt k=qcq;·rw[ap hw] at hr;obtain⟨⟨a,k1⟩,Y,hr⟩:=Option.bind_eq_some_iff.1 hr;obtain⟨q1,e⟩:=qap Y;cases e;obtain⟨⟨b,k2⟩,h2,hr⟩:=Option.bind_eq_some_iff.1 hr;obtain⟨q2,e⟩:=qap h2;cases e;cases hr;exact⟨pvw 256 B pb o p A C k m _ x _ w h hx I hl j (by simp) (by rw[hw];decide) (fun _ _=>by rw[hw];rfl) fun W J R=>qfI B pb o p A C (k+1) m x W J R I q1 q2,by show(1:Nat)≤1000;decide,by show x.Nh.length≤_;omega⟩
 rw[ae hw] at hr;clear hw;refine⟨?_,WT hr ha hf⟩;rcases TZ hr with ⟨hw,n,hq,hn,rfl,rfl⟩|⟨hw,hq,fr,ar,k2,a6,a7,rfl,rfl⟩;·exact pvw 253 B pb o p A C k m _ x _ w h hx I hl j (by simp) (by rw[hw];decide) (fun _ _=>by rw[hw];rfl) fun W J R=>qee B pb o p A C (k+1) m x W J R I n hq hn
 exact pvw 257 B pb o p A C k m _ x _ w h hx I hl j (by simp) (by rw[hw];decide) (fun _ _=>by rw[hw];rfl) fun W J R=>WW B pb o p A C (k+1) m k2 x fr ar W J R I hq (by rw[ha,hf];exact a6) a7 (by rw[ha];decide) (by rw[hf];decide)
def qhz (F:FuncId)(p:cr)(k k':Nat)(x x':cX):Prop:=
 ∀(B pb j:Nat) (A:Option Addr) (C m:Nat) (W:World),PB W B pb p A C (k+1) m→Uh W B j x→Calls prog F #[.pointer (some ⟨pb,0,none⟩),.pointer (some ⟨j,0,none⟩)] W (Ua B pb j p A C m k' x' W)
theorem qcG {p:cr}{x x':cX}{k k':Nat}(Y:p.Ok)(ha:x.args=[])(hf:x.Nh=[])(hr:qfe p x k=some (x',k')):
 ∃F,(F=225∨F=226∨F=227∨F=228∨F=229)∧TH UN (p.txt k)=some (.func (.func F) #[] #[])∧p.txt k≠gR∧x'.args.length≤1000∧x'.Nh.length≤1000∧qhz F p k k' x x':=by
 have h0:x.args.length≤2:=by rw[ha];decide
 have a1:x.Nh.length≤2:=by rw[hf];decide
 unfold qfe at hr;by_cases hw:p.txt k=qej;·rw[ap hw] at hr;obtain⟨⟨s,k1⟩,j,hr⟩:=Option.bind_eq_some_iff.1 hr;obtain⟨o,e⟩:=qap j;cases e;obtain⟨⟨a,k2⟩,h2,hr⟩:=Option.bind_eq_some_iff.1 hr;obtain⟨q2,e⟩:=qap h2;cases e;obtain⟨⟨b,k3⟩,h3,hr⟩:=Option.bind_eq_some_iff.1 hr;obtain⟨q3,e⟩:=qap h3;cases e;cases hr;exact⟨_,.inl rfl,by rw[hw];rfl,by rw[hw];decide,by show(x.args++[_,_]).length≤_;rw[iQ];show _+2≤_;omega,by show x.Nh.length≤_;omega,fun B pb I A C m W J R=>qeh B pb I p A C (k+1) m x W J R Y o q2 q3 (by omega)⟩
 rw[ae hw] at hr;clear hw;by_cases hw:p.txt k=qcZ;·rw[ap hw] at hr;obtain⟨⟨s,k1⟩,j,hr⟩:=Option.bind_eq_some_iff.1 hr;obtain⟨o,e⟩:=qap j;cases e;obtain⟨⟨a,k2⟩,h2,hr⟩:=Option.bind_eq_some_iff.1 hr;obtain⟨q2,e⟩:=qap h2;cases e;cases hr;exact⟨_,.inr (.inl rfl),by rw[hw];rfl,by rw[hw];decide,by show(x.args++[_]).length≤_;rw[iQ];show _+1≤_;omega,by show x.Nh.length≤_;omega,fun B pb I A C m W J R=>qdw B pb I p A C (k+1) m x W J R Y o q2 (by omega)⟩
 rw[ae hw] at hr;clear hw;unfold Yl at hr;by_cases hw:p.txt k=XX;·rw[ap hw] at hr;obtain⟨⟨s,k1⟩,j,hr⟩:=Option.bind_eq_some_iff.1 hr;obtain⟨o,e⟩:=qap j;cases e;cases hr;exact⟨_,.inr (.inr (.inl rfl)),by rw[hw];rfl,by rw[hw];decide,by show x.args.length≤_;omega,by show x.Nh.length≤_;omega,fun B pb I A C m W J R=>WH B pb I p A C (k+1) m x W J R Y o⟩
 rw[ae hw] at hr;clear hw;by_cases hw:p.txt k=Ww;·rw[ap hw] at hr;obtain⟨⟨a,k1⟩,j,hr⟩:=Option.bind_eq_some_iff.1 hr;obtain⟨o,e⟩:=qap j;cases e;obtain⟨⟨s,k2⟩,h2,hr⟩:=Option.bind_eq_some_iff.1 hr;obtain⟨q2,e⟩:=qap h2;cases e;obtain⟨⟨t,k3⟩,h3,hr⟩:=Option.bind_eq_some_iff.1 hr;obtain⟨q3,e⟩:=qap h3;cases e;cases hr;exact⟨_,.inr (.inr (.inr (.inl rfl))),by rw[hw];rfl,by rw[hw];decide,by show(1:Nat)≤1000;decide,by show x.Nh.length≤_;omega,fun B pb I A C m W J R=>by have:=VC B pb I p A C (k+1) m x W J R Y o q2 q3 (by omega);rw[ha] at this;exact this⟩
 rw[ae hw] at hr;clear hw;by_cases hw:p.txt k=Wx;·rw[ap hw] at hr;obtain⟨⟨a,k1⟩,j,hr⟩:=Option.bind_eq_some_iff.1 hr;obtain⟨o,e⟩:=qap j;cases e;cases hr;exact⟨_,.inr (.inr (.inr (.inr rfl))),by rw[hw];rfl,by rw[hw];decide,by show(1:Nat)≤1000;decide,by show x.Nh.length≤_;omega,fun B pb I A C m W J R=>by have:=WX B pb I p A C (k+1) m x W J R Y o (by omega);rw[ha] at this;exact this⟩
 rw[ae hw] at hr;cases hr
section
attribute [local go_sem] Xf Ya XQ XP
theorem qbw {p:cr}{k k':Nat}{x:cX}(h:qbv p k=some (x,k')):
 (p.is k 1=true∧p.txt (k+1)=YA∧qcd p {Va with dst:=p.txt k,Nj:=p.pos k} (k+1+1)=some (x,k'))∨
 (p.is k 1=false∧qfe p {Va with Nj:=p.pos k} k=some (x,k')):=by
 unfold qbv at h;by_cases j:p.is k 1=true
 ·rw[ap j] at h
  split at h;·rename_i o;exact .inl ⟨j,o,h⟩
  cases h
 rw[ae j] at h;exact .inr ⟨by simpa using j,h⟩
theorem qdS (pb:Nat)(p:cr)(A:Option Addr)(C k m k':Nat)(x:cX)(w:World)(h:Uo w pb p A C k m)(hp:p.Ok)(hl:gz w)(hm:m<4096)(hr:qbv p k=some (x,k')):
 Calls prog 149 #[.pointer (some ⟨pb,0,none⟩)] w (Vn pb p A C k' (m+1) x w):=by
 obtain⟨Z,hZ⟩:∃Z:Value,Z=.string gR:=⟨_,rfl⟩;obtain⟨W0,b1⟩:=eQ (w.alloc (.cells (wg Va (.slice none 0 0) (.slice none 0 0)) 188));have b4:=aC1 b1;have bR:al W0 w.heap.size 188 (wg Va (.slice none 0 0) (.slice none 0 0)):=by rw[b1];exact al.new _ _ _
 have e3:=(h.keep b4).pb;have b5:=oH h;have Y:=J5 b1 b4 bR e3 (hl.keep b4);have hlen:=hp.len;clear h hl b1 b4 bR e3;go_enter func149,ntmps149;go_upto_region 1 with fail;rw[show w.alloc (.cells #[.int .u8 0,.int .u8 0,.string ⟨#[]⟩,.string ⟨#[]⟩,.string ⟨#[]⟩,.slice none 0 0,.slice none 0 0,.int .i64 0,.int .i64 0] 188)=W0 from Y.1.symm];go_wp2_with fail;refine(Vv pb p A C k m W0 Y.2.2.2.1.pat hp).mono ?_;rintro e w1 ⟨rfl,a6⟩;go_upto_region 2 with fail;have k2:aa All w1 (w1.alloc (.cells #[.int .u8 0,.int .u8 0,.string ⟨#[]⟩,.string ⟨#[]⟩,.string ⟨#[]⟩,.slice none 0 0,.slice none 0 0,.int .i64 0,.int .i64 (p.pos k)] 188)):=kR.alloc _;have b2:al (w1.alloc (.cells #[.int .u8 0,.int .u8 0,.string ⟨#[]⟩,.string ⟨#[]⟩,.string ⟨#[]⟩,.slice none 0 0,.slice none 0 0,.int .i64 0,.int .i64 (p.pos k)] 188)) w1.heap.size 188 #[.int .u8 0,.int .u8 0,.string ⟨#[]⟩,.string ⟨#[]⟩,.string ⟨#[]⟩,.slice none 0 0,.slice none 0 0,.int .i64 0,.int .i64 (p.pos k)]:=al.new _ _ _;obtain⟨xb,e4⟩:=eQ w1.heap.size;obtain⟨B,hB⟩:=eQ W0.heap.size;rw[←e4] at b2⊢;generalize w1.alloc _=W2 at*;have h7:B≤xb:=by have:=a6.size;omega
 have H2:=oH (show St W0 B pb xb p A C m k {Va with Nj:=p.pos k} W2 from⟨(a6.trans k2).all,by rw[hB];exact Y.2.2.2.1.kept (a6.trans k2) fun _ _=>trivial,none,0,none,0,b2,⟨by simp[Va],.inl ⟨rfl,rfl⟩⟩,⟨by simp[Va],.inl ⟨rfl,rfl⟩⟩,(fun _ h=>by cases h),h7⟩);have HL:=J2 (Y.2.2.2.2.keep (a6.trans k2)) hB;clear a6 k2 b2 e4 hB;go_wp2_with fail;refine(WV W2).mono ?_;rintro e w3 ⟨b,rfl,b9,d7⟩;have H3:=oH (H2.out.all d7);have e5:=J2 (HL.1.keep d7) b9;clear d7 b9;go_wp2_with fail;refine(xt pb p A C k m 0 w3 H3.out.par.pat hp (by omega)).mono ?_;rintro e w4 ⟨rfl,b6⟩;rw[dj];have a7:=Ux (p.txt k) (by have:=(TJ hp k).2;unfold maxLen;omega) (e5.2.kept b6);obtain⟨t,ht⟩:=eQ ((TH UN (p.txt k)).getD .nilFunc);rw[←ht] at a7;have HT:=oH ht;have H4:=J2 (H3.out.all b6) (e5.1.keep b6);clear b6 ht;go_upto_region 3 with fail;clear a7;go_wp2_with fail;refine(TC pb p A C k m 1 w4 H4.1.par.pat hp).mono ?_;rintro e w5 ⟨rfl,d8⟩;have H5:=J2 (H4.1.all d8) (H4.2.keep d8);clear d8;rcases qbw hr with ⟨hq,b7,hv⟩|⟨hq,hv⟩
 ·have e6:=WL (Yc hp hq);have d9:t=.nilFunc:=by rw[HT.out,e6];rfl
  subst d9;rw[hq];have heq:((p.txt (k+1)).toList==[61])=true:=by rw[TY _ _ YA (by kernel_rfl),bL b7]
  have HQ:=J3 hq b7 hv;have h9:=TM (p:=p) (k:=k+1) (by rw[b7];decide);clear e6 b7 hr hv;go_wp2_with fail;refine(TC pb p A C k m 1 w5 H5.1.par.pat hp).mono ?_;rintro e w6 ⟨rfl,a1⟩;rw[hq];have H6:=J2 (H5.1.all a1) (H5.2.keep a1);clear a1 hq;go_wp2_with fail;refine(xt pb p A C k m 1 w6 H6.1.par.pat hp (by omega)).mono ?_;rintro e w7 ⟨rfl,e0⟩;have H7:=J2 (H6.1.all e0) (H6.2.keep e0);clear e0;have I:=H7.1.par.box;have b3:=I.cl 3;have f3:=I.free 3;clear I;go_wp2_with fail;refine(To pb m 4096 w7 hm).mono ?_;rintro e w8 ⟨rfl,rfl⟩;go_upto_region 10 with fail;clear b3 f3 heq;have h8:=H7.1.code;generalize w7.setCell _ _=W8 at*;have H8:=J2 h8 h8;clear h8;go_wp2_with fail;refine(xi pb p A C k (m+1) W8 H8.1.par.pat hp HQ.1).mono ?_;rintro e W9 ⟨rfl,e7⟩;have H9:=oH (H8.1.moved e7);clear e7;obtain⟨u2,j0⟩:=H9.out.Nb.cellAt 2 (by decide);have j1:=H9.out.Nb.free 2;go_upto_region 15 with fail;have e8:=H9.out.set 2 (.string (p.txt k)) (x':= {Va with dst:=p.txt k,Nj:=p.pos k}) rfl rfl (fun _ _=>rfl);generalize W9.setCell _ _=j2 at*;have e9:=oH e8;clear e8 j0 j1;go_wp2_with fail;refine(Ar pb p A C (k+1) (m+1) ⟨#[61]⟩ j2 e9.out.par.pat hp HQ.2.1 (by decide)).mono ?_;rintro e j3 ⟨rfl,c9⟩;have b8:=oH (e9.out.moved c9);clear c9;go_wp2_with fail;have h0:=oH (qeE B pb xb p A C (k+1+1) (m+1) k' {Va with dst:=p.txt k,Nj:=p.pos k} x j3 b8.out.par b8.out.Nb hp (XO b8.out HL.2 Y.2.2.2.2 Y.2.2.2.1) rfl rfl HQ.2.2);refine h0.1.mono ?_;rintro e e1 ⟨rfl,J⟩;have R:=oH (Ts b8.out J);clear J;go_upto_region 17 with fail;have h2:=oH h0.2;obtain⟨aA,aC,fA,fC,o,ra,rf,a8,b0⟩:=R.out.Nb;have e2:w.heap.size≠pb:=fun e=>by have h1:=b5.out.box.lt;omega
  have j:=Y.2.2.1.kept R.out.kept ⟨e2,by rw[HL.2];exact Y.2.2.1.lt⟩;unfold wg at j;have c0:=o.cl 0;have t0:=j.cl 0;have f0:=j.free 0;have c1:=o.cl 1;have t1:=j.cl 1;have f1:=j.free 1;have c2:=o.cl 2;have t2:=j.cl 2;have f2:=j.free 2;have c3:=o.cl 3;have t3:=j.cl 3;have f3:=j.free 3;have c4:=o.cl 4;have t4:=j.cl 4;have f4:=j.free 4;have c5:=o.cl 5;have t5:=j.cl 5;have f5:=j.free 5;have c6:=o.cl 6;have t6:=j.cl 6;have f6:=j.free 6;have c7:=o.cl 7;have t7:=j.cl 7;have f7:=j.free 7;have c8:=o.cl 8;have t8:=j.cl 8;have f8:=j.free 8;have HE:=J3 j ra rf;clear o j ra rf a8 b0;go_wp2_with fail;exact UK pb p A C k' (m+1) k m x w W0 e1 aA fA aC fC B xb _ rfl rfl b5.out Y.2.1 HL.2 R.out HE.1 rfl Y.2.2.1.lt HE.2.1 HE.2.2 h2.1 h2.2
 obtain⟨F,hF,a7,h3,h4,h5,hc⟩:=qcG hp rfl rfl hv;have d9:t=.func (.func F) #[] #[]:=by rw[HT.out,a7];rfl
 subst d9;rw[hq];have HQ:=J4 hq hc h4 h5;have h9:=TM (p:=p) (k:=k) h3;clear hr hv a7 h3 hc h4 h5;go_wp2_with fail;refine(TC pb p A C k m 1 w5 H5.1.par.pat hp).mono ?_;rintro e w6 ⟨rfl,a1⟩;rw[hq];have H6:=oH (H5.1.all a1);clear a1 hq;have I:=H6.out.par.box;have b3:=I.cl 3;have f3:=I.free 3;clear I;go_wp2_with fail;refine(To pb m 4096 w6 hm).mono ?_;rintro e w8 ⟨rfl,rfl⟩;go_upto_region 10 with fail;clear b3 f3;have h8:=H6.out.code;generalize w6.setCell _ _=W8 at*;have H8:=oH h8;clear h8;have I:=H8.out.par.box;have b2:=I.cl 2;have f2:=I.free 2;clear I;go_upto_region 12 with fail;have h6:wi pb p A C (k+1) (m+1) W8 (W8.setCell ⟨pb,2,none⟩ (.int .i64 ((k+1:Nat)))):=wi.of H8.out.par.pat kR (by omega);have H9:=oH (show St W0 B pb xb p A C (m+1) (k+1) {Va with Nj:=p.pos k} (W8.setCell ⟨pb,2,none⟩ (.int .i64 ((k:Int)+1))) by simpa using H8.out.moved h6);clear h6;generalize W8.setCell _ _=W9 at*;clear b2 f2;rcases hF with rfl|rfl|rfl|rfl|rfl
 all_goals
  go_wp2_with fail;refine(HQ.2.1 B pb xb A C (m+1) W9 H9.out.par H9.out.Nb).mono ?_;rintro e e1 ⟨rfl,J⟩;have R:=oH (Ts H9.out J);clear J;go_upto_region 13 with fail;obtain⟨aA,aC,fA,fC,o,ra,rf,a8,b0⟩:=R.out.Nb;have e2:w.heap.size≠pb:=fun e=>by have h1:=b5.out.box.lt;omega
  have j:=Y.2.2.1.kept R.out.kept ⟨e2,by rw[HL.2];exact Y.2.2.1.lt⟩;unfold wg at j;have c0:=o.cl 0;have t0:=j.cl 0;have f0:=j.free 0;have c1:=o.cl 1;have t1:=j.cl 1;have f1:=j.free 1;have c2:=o.cl 2;have t2:=j.cl 2;have f2:=j.free 2;have c3:=o.cl 3;have t3:=j.cl 3;have f3:=j.free 3;have c4:=o.cl 4;have t4:=j.cl 4;have f4:=j.free 4;have c5:=o.cl 5;have t5:=j.cl 5;have f5:=j.free 5;have c6:=o.cl 6;have t6:=j.cl 6;have f6:=j.free 6;have c7:=o.cl 7;have t7:=j.cl 7;have f7:=j.free 7;have c8:=o.cl 8;have t8:=j.cl 8;have f8:=j.free 8;have HE:=J3 j ra rf;clear o j ra rf a8 b0;go_wp2_with fail;exact UK pb p A C k' (m+1) k m x w W0 e1 aA fA aC fC B xb _ rfl rfl b5.out Y.2.1 HL.2 R.out HE.1 rfl Y.2.2.1.lt HE.2.1 HE.2.2 HQ.2.2.1 HQ.2.2.2
end
end Go.Proofs.YtgdlhckhpolnnaaGreatDoor
