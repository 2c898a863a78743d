/- Part 33 of the proof (its last part says what is proved). No condition. -/
import Derived.Test.YtccbbkopmlnkpaaGreatDoorK8
import Derived.Test.YtccbbkopmlnkpaaGreatDoorK31
namespace Go.Proofs.YtccbbkopmlnkpaaGreatDoor
set_option maxRecDepth 100000
set_option maxHeartbeats 8000000
open Go.RowKit Go.Proofs.Tryz
theorem Du {s:ByteArray}(j:dD s=true){n:Nat}(h:fM s=some n):s.size=0∨dN s 0≠45:=by
 by_cases o:s.size=0;·exact .inl o
 right;unfold fM at h;split at h;·cases h
 intro e;rw[oE (by omega),(lm j (by omega)).2.2] at h;simp only[e] at h;rw[ah (by decide)] at h;cases h
theorem lu {p:aL}(j:p.Ok)(k:Nat):dD (p.txt k)=true∧(p.txt k).size≤65536:=by
 unfold aL.txt;cases o:p.l[k]? with
 |none=>exact⟨by kernel_rfl,by show dQ.size≤_;decide⟩
 |some t=>have h:=j.tok t (mG o);have C:=j.size;exact⟨nT j.plain _ _,by show(p.s.extract t.beg t.fin).size≤_;rw[mF _ _ _ h.2.1];omega⟩
theorem yH (pb:Nat)(p:aL)(A:Option Addr)(C k m n:Nat)(w:World)(h:pe w pb p A C k m)(o:p.Ok)(R:p.is k 3=true)(I:fM (p.txt k)=some n):
 Calls prog 125 #[.pointer (some ⟨pb,0,none⟩)] w fun e w'=>e=.returned (.int .i64 n)∧dm pb p A C (k+1) m w w':=by
 have HT:=oH (vG pb p A C k m 3 w h o R);have HN:=oH (fun w=>pY (p.txt k) w (lu o k).1 (Du (lu o k).1 I) (lu o k).2);have HQ:=oH I;clear h R I;go_enter func125,ntmps125;go_wp2_with fail;refine HT.out.mono ?_;rintro e w1 ⟨rfl,hm⟩;have Y:=oH hm;clear hm;go_wp2_with fail;refine(HN.out w1).mono ?_;rintro e w2 ⟨j,v,rfl,hv⟩;have J:=hv n HQ.out;subst J;have HK:=oH j;clear j hv;go_wp2_with fail;go_ret;exact⟨rfl,Y.1.trans HK.out.all,Y.2.keep HK.out⟩
theorem zw (B pb j:Nat)(p:aL)(A:Option Addr)(C k m:Nat)(x:aB)(w:World)(h:PB w B pb p A C k m)(o:om w B j x)(J:p.Ok)(n:Nat)(R:p.is k 3=true)(Y:fM (p.txt k)=some n):
 Calls prog 252 #[.pointer (some ⟨pb,0,none⟩),.pointer (some ⟨j,0,none⟩)] w (nw B pb j p A C m (k+1) {x with kind:=1,num:=n} w):=by
 have I:=oH (St.first h o);clear h o;go_enter func252,ntmps252;go_wp2_with fail;refine(yH pb p A C k m n w I.out.par.pat J R Y).mono ?_;rintro e w1 ⟨rfl,hm⟩;have H1:=oH (I.out.moved hm);clear hm;obtain⟨u0,a1⟩:=H1.out.Ni.cellAt 0 (by decide);have a6:=H1.out.Ni.free 0;obtain⟨u7,a7⟩:=H1.out.Ni.cellAt 7 (by decide);have a8:=H1.out.Ni.free 7;go_wp2_with fail
 go_end0
 exact⟨rfl,(H1.out.set 0 (.int .u8 1) (x':= {x with kind:=1}) rfl rfl (fun _ _=>rfl)).set 7 (.int .i64 n) rfl rfl (fun _ _=>rfl)⟩
def mb (w:World)(g0 g1 xb pb:Nat):Prop:=al w g0 292 #[.pointer (some ⟨xb,0,none⟩)]∧al w g1 138 #[.pointer (some ⟨pb,0,none⟩)]∧g0≠pb∧g1≠pb
theorem mb.kept {w j:World}{g0 g1 o pb:Nat}{S:Nat→Prop}(h:mb w g0 g1 o pb)(k:aa S w j)(C:S g0)(I:S g1):mb j g0 g1 o pb:=⟨h.1.kept k C,h.2.1.kept k I,h.2.2⟩
def Bw (g0 g1:Nat)(B pb xb:Nat)(p:aL)(A:Option Addr)(C m:Nat)(k':Nat)(x':aB)(w:World)(e:Ending)(w':World):Prop:=e=.returned (.tuple #[])∧St w B pb xb p A C m k' x' w'∧mb w' g0 g1 xb pb
theorem GB (B pb xb:Nat)(p:aL)(A:Option Addr)(C k m:Nat)(x:aB)(w:World)(h:PB w B pb p A C k m)(hx:om w B xb x)(hp:p.Ok)(g0 g1:Nat)(hb:mb w g0 g1 xb pb)(hq:p.is k 1=true)(c0:p.txt (k+1)=⟨#[58]⟩)(c2:p.is (k+1+1) 1=true)(hl:x.args.length≤1000)(c4:x.Nn.length≤1000):
 Calls prog 257 #[.pointer (some ⟨g0,0,none⟩),.pointer (some ⟨g1,0,none⟩)] w (Bw g0 g1 B pb xb p A C m (k+1+1+1) {x with Nn:=x.Nn++[p.txt k],args:=x.args++[p.txt (k+1+1)]} w):=by
 obtain⟨iS,b6,b7,b8,b9⟩:=info_parts pK;have IS:=J4 b6 b7 b8 b9;clear b6 b7 b8 b9;have H0:=oH (St.first h hx);have HB:=oH hb;clear h hx hb;go_enter func257,ntmps257;go_upto_region 0 with fail;obtain⟨aA,aC,fA,fC,hb,ra,rf,a6,a7⟩:=H0.out.Ni;have HC:=oH (fun wn (hn:PB wn B pb p A C (k) m)=>dE pb p A C _ m wn hn.pat hp hq);have HV:=oH (fun wn (hn:aa (fun i=>(Value.ownBlock (.slice fA (x).Nn.length fC))≠some i∧i≠pb) w wn)=>show wn.cell? ⟨g0,0,none⟩=some (.pointer (some ⟨xb,0,none⟩))∧wn.cell? ⟨g1,0,none⟩=some (.pointer (some ⟨pb,0,none⟩))∧wn.cell? ⟨xb,6,none⟩=some (.slice fA (x).Nn.length fC) from⟨(HB.1.kept hn ⟨cm rf HB.1 (by decide),HB.2.2.1⟩).cell 0,(HB.2.1.kept hn ⟨cm rf HB.2.1 (by decide),HB.2.2.2⟩).cell 0,(hb.kept hn ⟨cm rf hb (by decide),H0.out.ne⟩).cell 6⟩);have HG:=oH (nJ (k:=k) (S:=fun y=>y=.string (p.txt (k))) H0.out.par rf);have HR:=J3 rf (show PB w.drew B pb p A C (if false=true then(k)+1 else(k)) m from H0.out.par.kept (S:=All) kR.drew fun _ _=>trivial) H0.out.par.size;have J:=J4 hb ra (fun b h1 h2=>a6 b h2 h1) a7;clear hb ra rf a6 a7;refine cL 11 6 [7,8] (SY w (fun i=>i≠pb) B 9 1 (.slice fA (x).Nn.length fC) (x).Nn.length ((x).Nn.map Value.string) (fun b w=>PB w B pb p A C (if b then(k)+1 else(k)) m)) [8,9,10] (FY w (fun i=>i≠pb) B 9 1 (.slice fA (x).Nn.length fC) (x).Nn.length ((x).Nn.map Value.string) (fun y=>[y]) (fun y _=>y=.string (p.txt (k))) 9 8) (fun i=>if i=6 then some (fun y=>y=.string (p.txt (k))) else if i=7 then some kI else if i=8 then some (jv (x).Nn.length) else none) (fun _=>false) (fun _ _=>False) (by kernel_rfl) (by kernel_rfl) (by kernel_rfl) (by kernel_rfl) (yn _ _ _) (by kernel_rfl) (by decide) (SY.first HR.1 HR.2.1) (fun _ _ _ h=>h.elim) ?_;simp only[tK];refine aJ (by rfl) (by rfl) (by rfl) (by decide) (by intro d o;cases o;decide) (fun b wn j hp=>by(obtain⟨q0,Y,q2⟩:=HV.out wn j.1;skip;go_simp;with_reducible rfl)) ?_;simp only[PS];refine aJ (by rfl) (by rfl) (by rfl) (by decide) (by intro d o;cases o;decide) (fun b wn j hp=>by(obtain⟨q0,Y,q2⟩:=HV.out wn j.1;skip;go_simp;with_reducible rfl)) ?_;simp only[PS];refine aJ (by rfl) (by rfl) (by rfl) (by decide) (by intro d o;cases o;decide) (fun b wn j hp=>by(obtain⟨q0,Y,q2⟩:=HV.out wn j.1;skip;go_simp;with_reducible rfl)) ?_;simp only[PS];refine aJ (by rfl) (by rfl) (by rfl) (by decide) (by intro d o;cases o;decide) (fun b wn j hp=>by(obtain⟨q0,Y,q2⟩:=HV.out wn j.1;skip;go_simp;with_reducible rfl)) ?_;simp only[PS];refine aJ (by rfl) (by rfl) (by rfl) (by decide) (by intro d o;cases o;decide) (fun b wn j hp=>by(obtain⟨q0,Y,q2⟩:=HV.out wn j.1;skip;go_simp;with_reducible rfl)) ?_;simp only[PS];refine aJ (by rfl) (by rfl) (by rfl) (by decide) (by intro d o;cases o;decide) (fun b wn j hp=>by(obtain⟨q0,Y,q2⟩:=HV.out wn j.1;skip;go_simp;with_reducible rfl)) ?_;simp only[PS];refine gr (V:=(fun y=>y=.string (p.txt (k)))) HG.out (by rfl) (by rfl) (by rfl) rfl (by decide) (fun wn j=>⟨_,_,by(obtain⟨q0,Y,q2⟩:=HV.out wn j.1;go_simp<;>with_reducible rfl),(HC.out wn j.2.2).mono fun e w' h=>⟨_,h.1,rfl,h.2.1,j.2.2.moved h.2,rfl⟩⟩) ?_;rintro u rfl;simp only[PS];refine iG HG.out (by decide) (by rfl) (by rfl) (by rfl) rfl (by decide) _ rfl (by decide) (fun wn j=>by(skip;go_simp<;>with_reducible rfl)) ?_;intro g;simp only[PS];refine iE HG.out (by decide) (by rfl) (by rfl) (by rfl) rfl (by decide) (by decide) (.tmp 6) 22 rfl iS _ 16 underlying22 IS.1 IS.2.1 IS.2.2.1 IS.2.2.2 rfl (by decide) rfl g rfl (by decide) (fun y w hy=>by subst hy;exact⟨rfl,fun u hu=>by rw[ce.1 hu];rfl⟩) (by unfold maxLen;show x.Nn.length+1≤_;omega) (by show(x.Nn.length+1)*16≤_;omega) HR.2.2 ?_;intro A5 c5;simp only[PS];refine aJ (by rfl) (by rfl) (by rfl) (by decide) (by intro d o;cases o;decide) (fun b wn j hp=>by(obtain⟨q0,Y,q2⟩:=HV.out wn j.1;skip;go_simp;with_reducible rfl)) ?_;simp only[PS];refine aJ (by rfl) (by rfl) (by rfl) (by decide) (by intro d o;cases o;decide) (fun b wn j hp=>by(obtain⟨q0,Y,q2⟩:=HV.out wn j.1;skip;go_simp;with_reducible rfl)) ?_;simp only[PS];refine ku fun wt a8 hF=>?_;have a1:=hF 10 (by simp) _ rfl;unfold FY at a1;rw[ah (by decide),ah (by decide)] at a1;have HT:=oH (show SY _ _ _ _ _ _ _ _ _ _ _ from a8);have HA:=oH a1;clear a8 hF a1;simp only[dK];have R:=J.1.kept HT.1 ⟨cm HR.1 J.1 (by decide),H0.out.ne⟩;have b5:=R.cell 6;have f5:=R.free 6;simp only[gc] at b5;clear R;go_upto_region 1 with fail;obtain⟨y,wz,Y,rfl,q3,q4,q5⟩:=HA.out;have R:=J.1.kept HT.1 ⟨cm HR.1 J.1 (by decide),H0.out.ne⟩;have b0:=ay J.2.1 HT.1 fun g hg=>⟨fun e=>J.2.2.1 g e hg,by rintro rfl;exact cm J.2.1 H0.out.par.box (by decide) hg⟩;have hX:=om.put_frm (x:=x) R Y b0 (rJ J.2.1 J.2.2.1 q3 q5) J.2.2.2;have b1:=xd H0.out HR.1 HT.1 HT.2.2 hX;have b2:aa (fun b=>b≠xb) wt (wt.setCell ⟨xb,6,none⟩ (.slice A5 (x.Nn.length+1) c5)):=kR.setCell (.inl fun h=>h rfl) _;have n0:g0≠xb:=HB.1.ne J.1 (by decide);have n1:g1≠xb:=HB.2.1.ne J.1 (by decide);have b3:=(HB.out.kept HT.1 ⟨cm HR.1 HB.1 (by decide),HB.2.2.1⟩ ⟨cm HR.1 HB.2.1 (by decide),HB.2.2.2⟩).kept b2 n0 n1;generalize wt.setCell _ _=c3 at*;have b4:=oH b3;have H1:=oH b1;clear R b0 hX b1 Y q3 q4 q5 b5 f5 HA HT J HR HG HV HC b2 b3;have c1:=b4.2.1.cell 0;simp only[gc] at c1;go_wp2_with fail;refine(fm pb p A C (k+1) m ⟨#[58]⟩ c3 H1.out.par.pat hp c0 (by decide)).mono ?_;rintro e W2 ⟨rfl,hm⟩;have H2:=oH (H1.out.moved hm);have I:=oH (b4.out.kept hm.1 b4.2.2.1 b4.2.2.2);clear hm c1;go_upto_region 2 with fail;obtain⟨aA,aC,fA,fC,hb,ra,rf,a6,a7⟩:=H2.out.Ni;have HC:=oH (fun wn (hn:PB wn B pb p A C (k+1+1) m)=>dE pb p A C _ m wn hn.pat hp c2);have HV:=oH (fun wn (hn:aa (fun i=>(Value.ownBlock (.slice aA (x).args.length aC))≠some i∧i≠pb) W2 wn)=>show wn.cell? ⟨g0,0,none⟩=some (.pointer (some ⟨xb,0,none⟩))∧wn.cell? ⟨g1,0,none⟩=some (.pointer (some ⟨pb,0,none⟩))∧wn.cell? ⟨xb,5,none⟩=some (.slice aA (x).args.length aC) from⟨(I.1.kept hn ⟨cm ra I.1 (by decide),I.2.2.1⟩).cell 0,(I.2.1.kept hn ⟨cm ra I.2.1 (by decide),I.2.2.2⟩).cell 0,(hb.kept hn ⟨cm ra hb (by decide),H2.out.ne⟩).cell 5⟩);have HG:=oH (nJ (k:=k+1+1) (S:=fun y=>y=.string (p.txt (k+1+1))) H2.out.par ra);have HR:=J3 ra (show PB W2.drew B pb p A C (if false=true then(k+1+1)+1 else(k+1+1)) m from H2.out.par.kept (S:=All) kR.drew fun _ _=>trivial) H2.out.par.size;have J:=J4 hb rf a6 a7;clear hb ra rf a6 a7;refine cL 11 6 [7,8] (SY W2 (fun i=>i≠pb) B 9 1 (.slice aA (x).args.length aC) (x).args.length ((x).args.map Value.string) (fun b w=>PB w B pb p A C (if b then(k+1+1)+1 else(k+1+1)) m)) [21,22,23] (FY W2 (fun i=>i≠pb) B 9 1 (.slice aA (x).args.length aC) (x).args.length ((x).args.map Value.string) (fun y=>[y]) (fun y _=>y=.string (p.txt (k+1+1))) 22 21) (fun i=>if i=6 then some (fun y=>y=.string (p.txt (k+1+1))) else if i=7 then some kI else if i=8 then some (jv (x).args.length) else none) (fun _=>false) (fun _ _=>False) (by kernel_rfl) (by kernel_rfl) (by kernel_rfl) (by kernel_rfl) (yn _ _ _) (by kernel_rfl) (by decide) (SY.first HR.1 HR.2.1) (fun _ _ _ h=>h.elim) ?_;simp only[tK];refine aJ (by rfl) (by rfl) (by rfl) (by decide) (by intro d o;cases o;decide) (fun b wn j hp=>by(obtain⟨q0,Y,q2⟩:=HV.out wn j.1;skip;go_simp;with_reducible rfl)) ?_;simp only[PS];refine aJ (by rfl) (by rfl) (by rfl) (by decide) (by intro d o;cases o;decide) (fun b wn j hp=>by(obtain⟨q0,Y,q2⟩:=HV.out wn j.1;skip;go_simp;with_reducible rfl)) ?_;simp only[PS];refine aJ (by rfl) (by rfl) (by rfl) (by decide) (by intro d o;cases o;decide) (fun b wn j hp=>by(obtain⟨q0,Y,q2⟩:=HV.out wn j.1;skip;go_simp;with_reducible rfl)) ?_;simp only[PS];refine aJ (by rfl) (by rfl) (by rfl) (by decide) (by intro d o;cases o;decide) (fun b wn j hp=>by(obtain⟨q0,Y,q2⟩:=HV.out wn j.1;skip;go_simp;with_reducible rfl)) ?_;simp only[PS];refine aJ (by rfl) (by rfl) (by rfl) (by decide) (by intro d o;cases o;decide) (fun b wn j hp=>by(obtain⟨q0,Y,q2⟩:=HV.out wn j.1;skip;go_simp;with_reducible rfl)) ?_;simp only[PS];refine aJ (by rfl) (by rfl) (by rfl) (by decide) (by intro d o;cases o;decide) (fun b wn j hp=>by(obtain⟨q0,Y,q2⟩:=HV.out wn j.1;skip;go_simp;with_reducible rfl)) ?_;simp only[PS];refine gr (V:=(fun y=>y=.string (p.txt (k+1+1)))) HG.out (by rfl) (by rfl) (by rfl) rfl (by decide) (fun wn j=>⟨_,_,by(obtain⟨q0,Y,q2⟩:=HV.out wn j.1;go_simp<;>with_reducible rfl),(HC.out wn j.2.2).mono fun e w' h=>⟨_,h.1,rfl,h.2.1,j.2.2.moved h.2,rfl⟩⟩) ?_;rintro u rfl;simp only[PS];refine iG HG.out (by decide) (by rfl) (by rfl) (by rfl) rfl (by decide) _ rfl (by decide) (fun wn j=>by(skip;go_simp<;>with_reducible rfl)) ?_;intro g;simp only[PS];refine iE HG.out (by decide) (by rfl) (by rfl) (by rfl) rfl (by decide) (by decide) (.tmp 19) 22 rfl iS _ 16 underlying22 IS.1 IS.2.1 IS.2.2.1 IS.2.2.2 rfl (by decide) rfl g rfl (by decide) (fun y w hy=>by subst hy;exact⟨rfl,fun u hu=>by rw[ce.1 hu];rfl⟩) (by unfold maxLen;show x.args.length+1≤_;omega) (by show(x.args.length+1)*16≤_;omega) HR.2.2 ?_;intro A5 c5;simp only[PS];refine aJ (by rfl) (by rfl) (by rfl) (by decide) (by intro d o;cases o;decide) (fun b wn j hp=>by(obtain⟨q0,Y,q2⟩:=HV.out wn j.1;skip;go_simp;with_reducible rfl)) ?_;simp only[PS];refine aJ (by rfl) (by rfl) (by rfl) (by decide) (by intro d o;cases o;decide) (fun b wn j hp=>by(obtain⟨q0,Y,q2⟩:=HV.out wn j.1;skip;go_simp;with_reducible rfl)) ?_;simp only[PS];refine ku fun wt a8 hF=>?_;have a1:=hF 23 (by simp) _ rfl;unfold FY at a1;rw[ah (by decide),ah (by decide)] at a1;have HT:=oH (show SY _ _ _ _ _ _ _ _ _ _ _ from a8);have HA:=oH a1;clear a8 hF a1;simp only[dK];have R:=J.1.kept HT.1 ⟨cm HR.1 J.1 (by decide),H2.out.ne⟩;have b5:=R.cell 5;have f5:=R.free 5;simp only[gc] at b5;clear R;go_wp2_with fail
 go_end0
 obtain⟨y,wz,Y,rfl,q3,q4,q5⟩:=HA.out;have R:=J.1.kept HT.1 ⟨cm HR.1 J.1 (by decide),H2.out.ne⟩;have b0:=ay J.2.1 HT.1 fun g hg=>⟨fun e=>J.2.2.1 g e hg,by rintro rfl;exact cm J.2.1 H2.out.par.box (by decide) hg⟩;have hX:=om.put_args (x:= {x with Nn:=x.Nn++[p.txt k]}) R Y b0 (rJ J.2.1 J.2.2.1 q3 q5) J.2.2.2;have b1:=xd H2.out HR.1 HT.1 HT.2.2 hX;have b2:aa (fun b=>b≠xb) wt (wt.setCell ⟨xb,5,none⟩ (.slice A5 (x.args.length+1) c5)):=kR.setCell (.inl fun h=>h rfl) _;have n0:g0≠xb:=I.1.ne J.1 (by decide);have n1:g1≠xb:=I.2.1.ne J.1 (by decide);have b3:=(I.out.kept HT.1 ⟨cm HR.1 I.1 (by decide),I.2.2.1⟩ ⟨cm HR.1 I.2.1 (by decide),I.2.2.2⟩).kept b2 n0 n1;exact⟨rfl,b1,b3⟩
theorem mb.set {w:World}{g0 g1 B o pb:Nat}{x:aB}(h:mb w g0 g1 o pb)(I:om w B o x)(j:Nat)(v:Value):mb (w.setCell ⟨o,j,none⟩ v) g0 g1 o pb:=by obtain⟨J,R,Y,fC,C,_⟩:=I;exact h.kept ((aa.refl (fun b=>b≠o) _).setCell (.inl fun h=>h rfl) _) (h.1.ne C (by decide)) (h.2.1.ne C (by decide))
theorem qC {p:aL}{f n k:Nat}{C I:List ByteArray}{r:List ByteArray×List ByteArray×Nat}(h:ry p (f+1) n k C I=some r):
 p.is k 1=true∧n<64∧p.txt (k+1)=Kb∧p.is (k+1+1) 1=true∧if p.txt (k+1+1+1)=LR then ry p f (n+1) (k+1+1+1+1) (C++[p.txt k]) (I++[p.txt (k+1+1)])=some r else r=(C++[p.txt k],I++[p.txt (k+1+1)],k+1+1+1):=by
 rw[ry] at h;split at h;·cases h
 rename_i h0;unfold jJ mn at h;by_cases j:p.is k 1=true
 ·by_cases o:p.txt (k+1)=Kb
  ·(
 by_cases J:p.is (k+1+1) 1=true
 ·simp only[j,o,J,if_true,Option.bind_eq_bind,Option.bind_some] at h;refine⟨j,by rcases Nat.lt_or_ge n 64 with R|R;exact R;exact absurd ⟨j,R⟩ h0,o,J,?_⟩;split at h;·rename_i Y;rw[am Y];exact h
  rename_i Y;rw[ah Y];cases h;rfl
 simp[j,o,J] at h)
  simp[j,o] at h
 simp[j] at h
theorem DK (B pb xb g0 g1:Nat)(p:aL)(A:Option Addr)(C k m k':Nat)(x:aB)(fr ar:List ByteArray)(w:World)(h:PB w B pb p A C k m)(hx:om w B xb x)(hb:mb w g0 g1 xb pb)(hp:p.Ok)(hr:ry p 65 0 k x.Nn x.args=some (fr,ar,k'))(hl:x.args.length≤100)(c1:x.Nn.length≤100):
 Calls prog 193 #[.pointer (some ⟨pb,0,none⟩),.int .i64 64,.func (.func 257) #[] #[.pointer (some ⟨g0,0,none⟩),.pointer (some ⟨g1,0,none⟩)]] w (Bw g0 g1 B pb xb p A C m k' {x with Nn:=fr,args:=ar} w):=by
 have H0:=J3 (St.first h hx) hb hr;have c0:=hp.len;clear h hx hb hr;go_enter func193,ntmps193;go_wp2_with fail;go_loopg [6] 65 (fun g s6 wr=>∃(f n J:Nat) (f1 Y:List ByteArray),g=f∧s6=.int .i64 n∧n+f=65∧f1.length≤n+100∧Y.length≤n+100∧ry p f n J f1 Y=some (fr,ar,k')∧St w B pb xb p A C m J {x with Nn:=f1,args:=Y} wr∧mb wr g0 g1 xb pb);·exact⟨65,0,k,x.Nn,x.args,rfl,rfl,rfl,by omega,by omega,H0.2.2,H0.1,H0.2.1⟩
 obtain⟨f,n,J,f1,Y,c2,rfl,c3,c4,c5,a6,b3,b4⟩:=hrel;obtain⟨wo,b8⟩:=eQ wr;subst b8;cases f with
 |zero=>cases a6
 |succ f=>
 obtain⟨q1,q2,q3,q4,q5⟩:=qC a6;have HS:=J2 b3 b4;have HQ:=J4 q1 q3 q4 q5;clear b3 b4 a6 q1 q3 q4 q5;go_wp2_with fail;refine(km pb p A C J m 1 wo HS.1.par.pat hp).mono ?_;rintro e w1 ⟨rfl,a7⟩;rw[HQ.1];have R:=J2 (HS.1.all a7) (HS.2.kept a7 trivial trivial);clear a7;go_wp2_with fail;refine(gY pb n 64 w1 q2).mono ?_;rintro e w2 ⟨rfl,rfl⟩;go_wp2_with fail;refine(GB B pb xb p A C J m {x with Nn:=f1,args:=Y} w1 R.1.par R.1.Ni hp g0 g1 R.2 HQ.1 HQ.2.1 HQ.2.2.1 (by show Y.length≤_;omega) (by show f1.length≤_;omega)).mono ?_;rintro e w3 ⟨rfl,b5,b6⟩;have a8:=J2 (iz R.1 b5) b6;clear b5 b6;go_wp2_with fail;refine(dS pb p A C (J+1+1+1) m 0 w3 a8.1.par.pat hp (by omega)).mono ?_;rintro e w4 ⟨rfl,b0⟩;rw[cJ];have j:=J2 (a8.1.all b0) (a8.2.kept b0 trivial trivial);clear b0;by_cases o:p.txt (J+1+1+1)=LR;·(
 have I:=HQ.2.2.2;rw[am o] at I;have c6:=lX (p:=p) (k:=J+1+1+1) (by rw[o];decide);have b9:((p.txt (J+1+1+1)).toList==[44])=true:=by rw[nh _ _ LR (by kernel_rfl),be o]
 have HZ:=oH I;have b1:=j.1.par.box;have b2:=b1.cell 2;have f2:=b1.free 2;simp only[gc] at b2;clear I o b1;go_wp2_with fail;go_roundg f
 ·have b7:dm pb p A C (J+1+1+1+1) m w4 (w4.setCell ⟨pb,2,none⟩ (.int .i64 ((J+1+1+1+1:Nat)))):=dm.of j.1.par.pat kR (by omega);refine⟨f,n+1,J+1+1+1+1,_,_,rfl,by go_num,by omega,?_,?_,HZ.out,?_,?_⟩;·rw[eV];show f1.length+1≤_;omega
  ·rw[eV];show Y.length+1≤_;omega
  ·simpa using j.1.moved b7
  simpa using j.2.kept b7.1 j.2.2.2.1 j.2.2.2.2
 omega)
 have I:=HQ.2.2.2;rw[ah o] at I;have b9:((p.txt (J+1+1+1)).toList==[44])=false:=by rw[nh _ _ LR (by kernel_rfl),cN o]
 have HZ:=oH I;clear I o;go_wp2_with fail;have e:=HZ.out;injection e with e1 e2;injection e2 with e2 e3;subst e1;subst e2;subst e3;exact bodyPost_ret (results_none rfl _ _ _) rfl ⟨rfl,j.1,j.2⟩
theorem EV (B pb Y:Nat)(p:aL)(A:Option Addr)(C k m k':Nat)(x:aB)(fr ar:List ByteArray)(w:World)(h:PB w B pb p A C k m)(hx:om w B Y x)(hp:p.Ok)(hq:p.txt k=MC)(hr:ry p 65 0 (k+1) x.Nn x.args=some (fr,ar,k'))(b0:p.txt k'=MD)(hl:x.args.length≤100)(b1:x.Nn.length≤100):
 Calls prog 256 #[.pointer (some ⟨pb,0,none⟩),.pointer (some ⟨Y,0,none⟩)] w (nw B pb Y p A C m (k'+1) {x with kind:=3,Nn:=fr,args:=ar} w):=by
 obtain⟨W0,j⟩:=eQ ((w.alloc (.cells #[.pointer (some ⟨pb,0,none⟩)] 138)).alloc (.cells #[.pointer (some ⟨Y,0,none⟩)] 292));have a1:aa All w W0:=by rw[j];exact(kR.alloc _).alloc _
 have a6:mb W0 (w.heap.size+1) w.heap.size Y pb:=by(
 rw[j];refine⟨?_,(al.new w _ _).alloc _,by have:=h.low;have:=h.size;omega,by have:=h.low;have:=h.size;omega⟩;have h1:(w.alloc (.cells #[.pointer (some ⟨pb,0,none⟩)] 138)).heap.size=w.heap.size+1:=by simp
 rw[←h1];exact al.new _ _ _)
 have H0:=J3 j ((St.first h hx).all a1) a6;clear h hx j a1 a6;go_enter func256,ntmps256;go_upto_region 1 with fail;rw[←H0.1];obtain⟨g0,o⟩:=eQ (w.heap.size+1);obtain⟨g1,I⟩:=eQ w.heap.size;have HB:=oH (show mb W0 g0 g1 Y pb by rw[o,I];exact H0.2.2);rw[←o,←I];have HG:=J2 o I;clear o I;have c0:=HB.1.cell 0;obtain⟨u0,b2⟩:=H0.2.1.Ni.cellAt 0 (by decide);have b3:=H0.2.1.Ni.free 0;simp only[gc] at c0;go_upto_region 2 with fail;have J:=oH (HB.out.set H0.2.1.Ni 0 (.int .u8 3));have h2:=H0.2.1.set 0 (.int .u8 3) (x':= {x with kind:=3}) rfl rfl (fun _ _=>rfl);generalize W0.setCell _ _=W1 at*;have H1:=oH h2;clear h2 c0 b2 b3;have R:=J.2.1.cell 0;simp only[gc] at R;go_wp2_with fail;refine(fm pb p A C k m ⟨#[91]⟩ W1 H1.out.par.pat hp hq (by decide)).mono ?_;rintro e W2 ⟨rfl,hm⟩;have H2:=J2 (H1.out.moved hm) (J.out.kept hm.1 J.2.2.1 J.2.2.2);clear hm R;have R:=H2.2.2.1.cell 0;simp only[gc] at R;go_wp2_with fail;refine(DK B pb Y g0 g1 p A C (k+1) m k' {x with kind:=3} fr ar W2 H2.1.par H2.1.Ni H2.2 hp hr hl b1).mono ?_;rintro e W3 ⟨rfl,a7,a8⟩;have H3:=J2 (iz H2.1 a7) a8;clear a7 a8 R;have R:=H3.2.2.1.cell 0;simp only[gc] at R;go_wp2_with fail;refine(fm pb p A C k' m ⟨#[93]⟩ W3 H3.1.par.pat hp b0 (by decide)).mono ?_;rintro e W4 ⟨rfl,hm⟩;have H4:=oH (H3.1.moved hm);clear hm R;go_wp2_with fail
 go_end0
 exact⟨rfl,H4.out⟩
section
open Go.RowKit Go.WideMaps Go.Maps
abbrev co:=List (ByteArray×Value)
def kC (l:co):Array MapEntry:=(l.zipIdx.map fun(x,n)=>⟨.string x.1,x.2,n⟩).toArray
def gD (l:co)(a:ByteArray):Option Value:=(l.find? fun x=>a==x.1).map (·.2)
theorem pC (a:ByteArray)(l:co)(n m:Nat):
 Instr.findNow .string (.string a) (l.zipIdx m|>.map fun(x,n)=>(⟨.string x.1,x.2,n⟩:MapEntry)) n=some ((l.findIdx? fun x=>a==x.1).bind fun i=>(gD l a).map fun f=>(n+i,f)):=by
 induction l generalizing n m with
 |nil=>rfl
 |cons x l j=>
  simp only[List.zipIdx_cons,List.map_cons,Instr.findNow,Instr.sameNow,gD,List.find?_cons,List.findIdx?_cons];cases h:a==x.1;·simp only[j,gD];cases l.findIdx? fun x=>a==x.1<;>simp;cases l.find? fun x=>a==x.1<;>simp;omega
  simp
theorem nV (w:World)(a:ByteArray)(l:List MapEntry)(r)(h:Instr.findNow .string (.string a) l 0=some r):
 (Instr.findKey 9 (.string a) l).run prog w=.ok r w:=by
 unfold Instr.findKey;simp[run_underlying underlying9,h]
theorem uT (l:co)(k:ByteArray)(f:Value):(kC l).push ⟨.string k,f,l.length⟩=kC (l++[(k,f)]):=by simp[kC,List.zipIdx_append]
def ft (w:World)(b:Nat)(l:co):Prop:=w.heap[b]? =some (.map (kC l) l.length)
def dc (w:World)(b:Nat)(l:co):World:= {w with heap:=w.heap.setIfInBounds b (.map (kC l) l.length)}
theorem ft.lt {w:World}{b:Nat}{l:co}(h:ft w b l):b<w.heap.size:=(kT.1 h).1
theorem ft.set {w:World}{b:Nat}{l:co}(h:ft w b l)(j:co):ft (dc w b j) b j:=by have:=h.lt;simp[ft,dc,this]
theorem ft.kept {w j:World}{b:Nat}{l:co}(h:ft w b l)(k:aa All w j):ft j b l:=by unfold ft;rw[k.block b h.lt trivial];exact h
theorem tL (w:World)(b:Nat)(l j:co):dc (dc w b l) b j=dc w b j:=by simp[dc,Array.setIfInBounds_setIfInBounds]
theorem iy {S:Nat→Prop}{w o:World}{b:Nat}{l:co}(h:aa S w o)(J:w.heap.size≤b):aa S w (dc o b l):=by
 refine⟨h.os,h.output,by simpa [dc] using h.size,fun k C I=>?_⟩;have j:b≠k:=by omega
 rw[←h.block k C I];simp[dc,Array.getElem?_setIfInBounds_ne j]
theorem GU {W:World}{b:Nat}{l:co}(k:ByteArray)(f:Value)(C:k.size≤maxLen)(h:(l.findIdx? fun x=>k==x.1)=none)(I:ft W b l):
 (Instr.mapUpdate 290 (.map (some b)) (.string k) f).run prog W=.ok () (dc W b (l++[(k,f)])):=by
 have J:=nV W k (kC l).toList none (by have:=pC k l 0 0;rw[h] at this;simpa [kC] using this);have o:=sV.check W false (keyOf_string_mk underlying9 C);have j:W.heap[b]? =some (.map (kC l) l.length):=I;unfold Instr.mapUpdate;simp[run_underlying underlying290,MapKept.run_getObj_map j,o,J,MapKept.run_setObj_map _ j,Result.andThen,uT,dc]
theorem qG {w:World}{l:co}{b:Nat}(k:ByteArray)(J:k.size≤maxLen)(R:ft w b l):
 (Instr.lookup 290 (.map (some b)) (.string k) false).run prog w=.ok ((gD l k).getD .nilFunc) w:=by
 have j:=nV w k (kC l).toList _ (by have:=pC k l 0 0;simpa [kC] using this);have o:=sV.check w (kC l).isEmpty (keyOf_string_mk underlying9 J);have C:w.heap[b]? =some (.map (kC l) l.length):=R;have Y:(zeroValue 289).run prog w=.ok .nilFunc w:=by kernel_rfl
 unfold Instr.lookup;simp[run_underlying underlying290,MapKept.run_getObj_map C,o,j,Result.andThen];cases h:l.findIdx? fun x=>k==x.1 with
 |none=>
  have:gD l k=none:=by rw[List.findIdx?_eq_none_iff] at h;simp only[gD,Option.map_eq_none_iff,List.find?_eq_none];intro x hx;simp[h x hx]
  simp[this,Y]
 |some i=>
  obtain⟨f,j⟩:∃f,gD l k=some f:=by(
 rw[List.findIdx?_eq_some_iff_getElem] at h;obtain⟨hi,hk,_⟩:=h;cases I:l.find? fun x=>k==x.1 with
 |none=>exact absurd hk (List.find?_eq_none.1 I _ (jy hi))
 |some f=>exact⟨f.2,by simp[gD,I]⟩)
  simp[j]
end
def sl:co:=[(⟨#[115,116,111,114,101]⟩,.func (.func 243) #[] #[]),(⟨#[111,117,116,112,117,116]⟩,.func (.func 244) #[] #[]),(⟨#[106,117,109,112]⟩,.func (.func 245) #[] #[]),(⟨#[98,114,97,110,99,104]⟩,.func (.func 246) #[] #[]),(⟨#[114,101,116,117,114,110]⟩,.func (.func 247) #[] #[])]
def jM (g4 g5:Nat):co:=[(⟨#[99,111,110,115,116]⟩,.func (.func 252) #[] #[]),(⟨#[108,111,97,100]⟩,.func (.func 251) #[] #[.pointer (some ⟨g4,0,none⟩)]),(⟨#[119,114,97,112]⟩,.func (.func 251) #[] #[.pointer (some ⟨g5,0,none⟩)]),(⟨#[105,110,112,117,116]⟩,.func (.func 253) #[] #[]),(⟨#[99,97,108,108]⟩,.func (.func 254) #[] #[]),(⟨#[114,101,108,101,97,115,101]⟩,.func (.func 255) #[] #[]),(⟨#[112,104,105]⟩,.func (.func 256) #[] #[])]
theorem fT {W:World}{b:Nat}{o:co}(tab:co)(i:Nat)(k:ByteArray)(f:Value)(hi:tab[i]? =some (k,f))(j:((tab.take i).findIdx? fun x=>k==x.1)=none)(C:k.size≤maxLen)(I:ft W b o):
 (Instr.mapUpdate 290 (.map (some b)) (.string k) f).run prog (dc W b (tab.take i))=.ok () (dc W b (tab.take (i+1))):=by
 have h:=GU k f C j (I.set (tab.take i));rw[tL] at h;rw[dT,hi];exact h
theorem jI {W:World}{b:Nat}{l:co}(h:ft W b l):dc W b l=W:=by
 unfold dc;have:W.heap.setIfInBounds b (.map (kC l) l.length)=W.heap:=by(
 apply Array.ext_getElem?;intro i;rw[Array.getElem?_setIfInBounds];split
 ·rename_i e
  subst e;rw[am h.lt];exact h.symm
 rfl)
 rw[this]
theorem yu (w:World):(Instr.makeMap 290 none).run prog w=.ok (.map (some w.heap.size)) (w.alloc (.map #[] 0)):=by kernel_rfl
theorem qy (w:World):ft (w.alloc (.map #[] 0)) w.heap.size []:=by show(w.heap.push (.map #[] 0))[w.heap.size]? =_;simp[kC]
theorem ES (w:World):Calls prog 229 #[] w fun e J=>∃b,e=.returned (.map (some b))∧ft J b sl∧aa All w J:=by
 have hm:=yu w;have j:=qy w;have R:aa All w (w.alloc (.map #[] 0)):=kR.alloc _;have o:=jI j;obtain⟨b,Y⟩:=eQ w.heap.size;have C:w.heap.size≤b:=by omega
 rw[←Y] at hm j o;generalize w.alloc (.map #[] 0)=W at*;have u0:=fT sl 0 ⟨#[115,116,111,114,101]⟩ (.func (.func 243) #[] #[]) rfl rfl (by decide) j;rw[show sl.take 0=[] from rfl,o] at u0;have u1:=fT sl 1 ⟨#[111,117,116,112,117,116]⟩ (.func (.func 244) #[] #[]) rfl rfl (by decide) j;have u2:=fT sl 2 ⟨#[106,117,109,112]⟩ (.func (.func 245) #[] #[]) rfl rfl (by decide) j;have u3:=fT sl 3 ⟨#[98,114,97,110,99,104]⟩ (.func (.func 246) #[] #[]) rfl rfl (by decide) j;have u4:=fT sl 4 ⟨#[114,101,116,117,114,110]⟩ (.func (.func 247) #[] #[]) rfl rfl (by decide) j;have I:=J3 R (j.set (sl.take 5)) C;clear R j o Y C;go_enter func229,ntmps229;go_wp2;go_ret;exact⟨b,rfl,I.2.1,iy I.1 I.2.2⟩
theorem xL (n:Nat)(w:World)(_:n<256):Calls prog 250 #[.int .u8 n] w fun e j=>∃g,e=.returned (.func (.func 251) #[] #[.pointer (some ⟨g,0,none⟩)])∧aa All w j:=by go_enter func250,ntmps250;go_wp2;go_ret;exact⟨_,rfl,kR.alloc _⟩
theorem tW (w:World):Calls prog 249 #[] w fun e w'=>∃b g4 g5,e=.returned (.map (some b))∧ft w' b (jM g4 g5)∧aa All w w':=by
 have hm:=yu w;have R:=qy w;have hk:aa All w (w.alloc (.map #[] 0)):=kR.alloc _;have C:=jI R;obtain⟨b,hb⟩:=eQ w.heap.size;have j:w.heap.size≤b:=by omega
 rw[←hb] at hm R C;generalize w.alloc (.map #[] 0)=W at*;have u0:=fT (jM 0 0) 0 ⟨#[99,111,110,115,116]⟩ (.func (.func 252) #[] #[]) rfl rfl (by decide) R;rw[show(jM 0 0).take 0=[] from rfl,C] at u0;have HB:=oH j;have Y:=J2 (iy hk j:aa All w (dc W b ((jM 0 0).take 1))) (R.set ((jM 0 0).take 1));clear hk R C hb j;generalize b0:dc W b ((jM 0 0).take (0+1))=W1 at*;go_enter func249,ntmps249;go_wp2_with fail;refine(xL 4 W1 (by decide)).mono ?_;rintro e w2 ⟨g4,rfl,I⟩;have j:=Y.2.kept I;have a1:=jI j;have u1:=fT (jM g4 0) 1 ⟨#[108,111,97,100]⟩ (.func (.func 251) #[] #[.pointer (some ⟨g4,0,none⟩)]) rfl rfl (by decide) j;rw[show(jM g4 0).take 1=(jM 0 0).take 1 from rfl,a1] at u1;have a6:=J2 (iy (Y.1.trans I) HB.out:aa All w (dc w2 b ((jM g4 0).take 2))) (j.set ((jM g4 0).take 2));clear I j a1 u0 hm;generalize b1:dc w2 b ((jM g4 0).take (1+1))=W3 at*;go_wp2_with fail;refine(xL 5 W3 (by decide)).mono ?_;rintro e w4 ⟨g5,rfl,J⟩;have o:=a6.2.kept J;have a7:=jI o;have u2:=fT (jM g4 g5) 2 ⟨#[119,114,97,112]⟩ (.func (.func 251) #[] #[.pointer (some ⟨g5,0,none⟩)]) rfl rfl (by decide) o;have u3:=fT (jM g4 g5) 3 ⟨#[105,110,112,117,116]⟩ (.func (.func 253) #[] #[]) rfl rfl (by decide) o;have u4:=fT (jM g4 g5) 4 ⟨#[99,97,108,108]⟩ (.func (.func 254) #[] #[]) rfl rfl (by decide) o;have u5:=fT (jM g4 g5) 5 ⟨#[114,101,108,101,97,115,101]⟩ (.func (.func 255) #[] #[]) rfl rfl (by decide) o;have u6:=fT (jM g4 g5) 6 ⟨#[112,104,105]⟩ (.func (.func 256) #[] #[]) rfl rfl (by decide) o;rw[show(jM g4 g5).take 2=(jM g4 0).take 2 from rfl,a7] at u2;have a8:=J2 (iy (a6.1.trans J) HB.out:aa All w (dc w4 b ((jM g4 g5).take 7))) (o.set ((jM g4 g5).take 7));clear J o a7 u1;go_wp2_with fail;go_ret;exact⟨b,g4,g5,rfl,a8.2,a8.1⟩
section
open Go.RowKit Go.WideMaps Go.Maps
def ou:co:=[(⟨#[108,101,118,101,108]⟩,.agg #[.func (.func 177) #[] #[],.int .i64 1]),(⟨#[102,108,111,119]⟩,.agg #[.func (.func 178) #[] #[],.int .i64 2]),(⟨#[105,110,112,117,116]⟩,.agg #[.func (.func 179) #[] #[],.int .i64 2]),(⟨#[111,117,116,112,117,116]⟩,.agg #[.func (.func 180) #[] #[],.int .i64 2]),(⟨#[100,101,112,116,104]⟩,.agg #[.func (.func 181) #[] #[],.int .i64 1])]
theorem GS {W:World}{b:Nat}{l:co}(k:ByteArray)(f:Value)(C:k.size≤maxLen)(h:(l.findIdx? fun x=>k==x.1)=none)(I:ft W b l):
 (Instr.mapUpdate 201 (.map (some b)) (.string k) f).run prog W=.ok () (dc W b (l++[(k,f)])):=by
 have J:=nV W k (kC l).toList none (by have:=pC k l 0 0;rw[h] at this;simpa [kC] using this);have o:=sV.check W false (keyOf_string_mk underlying9 C);have j:W.heap[b]? =some (.map (kC l) l.length):=I;unfold Instr.mapUpdate;simp[run_underlying underlying201,MapKept.run_getObj_map j,o,J,MapKept.run_setObj_map _ j,Result.andThen,uT,dc]
theorem DV {w:World}{l:co}{b:Nat}(k:ByteArray)(J:k.size≤maxLen)(R:ft w b l):
 (Instr.lookup 201 (.map (some b)) (.string k) false).run prog w=.ok ((gD l k).getD (.agg #[.nilFunc,.int .i64 0])) w:=by
 have j:=nV w k (kC l).toList _ (by have:=pC k l 0 0;simpa [kC] using this);have o:=sV.check w (kC l).isEmpty (keyOf_string_mk underlying9 J);have C:w.heap[b]? =some (.map (kC l) l.length):=R;have Y:(zeroValue 200).run prog w=.ok (.agg #[.nilFunc,.int .i64 0]) w:=by kernel_rfl
 unfold Instr.lookup;simp[run_underlying underlying201,MapKept.run_getObj_map C,o,j,Result.andThen];cases h:l.findIdx? fun x=>k==x.1 with
 |none=>
  have:gD l k=none:=by rw[List.findIdx?_eq_none_iff] at h;simp only[gD,Option.map_eq_none_iff,List.find?_eq_none];intro x hx;simp[h x hx]
  simp[this,Y]
 |some i=>
  obtain⟨f,j⟩:∃f,gD l k=some f:=by(
 rw[List.findIdx?_eq_some_iff_getElem] at h;obtain⟨hi,hk,_⟩:=h;cases I:l.find? fun x=>k==x.1 with
 |none=>exact absurd hk (List.find?_eq_none.1 I _ (jy hi))
 |some f=>exact⟨f.2,by simp[gD,I]⟩)
  simp[j]
theorem ns {W:World}{b:Nat}{o:co}(tab:co)(i:Nat)(k:ByteArray)(f:Value)(hi:tab[i]? =some (k,f))(j:((tab.take i).findIdx? fun x=>k==x.1)=none)(C:k.size≤maxLen)(I:ft W b o):
 (Instr.mapUpdate 201 (.map (some b)) (.string k) f).run prog (dc W b (tab.take i))=.ok () (dc W b (tab.take (i+1))):=by
 have h:=GS k f C j (I.set (tab.take i));rw[tL] at h;rw[dT,hi];exact h
theorem Dk (w:World):(Instr.makeMap 201 none).run prog w=.ok (.map (some w.heap.size)) (w.alloc (.map #[] 0)):=by kernel_rfl
theorem vk (w:World):Calls prog 115 #[] w fun e J=>∃b,e=.returned (.map (some b))∧ft J b ou∧aa All w J:=by
 have hm:=Dk w;have j:=qy w;have R:aa All w (w.alloc (.map #[] 0)):=kR.alloc _;have o:=jI j;obtain⟨b,Y⟩:=eQ w.heap.size;have C:w.heap.size≤b:=by omega
 rw[←Y] at hm j o;generalize w.alloc (.map #[] 0)=W at*;have u0:=ns ou 0 ⟨#[108,101,118,101,108]⟩ (.agg #[.func (.func 177) #[] #[],.int .i64 1]) rfl rfl (by decide) j;rw[show ou.take 0=[] from rfl,o] at u0;have u1:=ns ou 1 ⟨#[102,108,111,119]⟩ (.agg #[.func (.func 178) #[] #[],.int .i64 2]) rfl rfl (by decide) j;have u2:=ns ou 2 ⟨#[105,110,112,117,116]⟩ (.agg #[.func (.func 179) #[] #[],.int .i64 2]) rfl rfl (by decide) j;have u3:=ns ou 3 ⟨#[111,117,116,112,117,116]⟩ (.agg #[.func (.func 180) #[] #[],.int .i64 2]) rfl rfl (by decide) j;have u4:=ns ou 4 ⟨#[100,101,112,116,104]⟩ (.agg #[.func (.func 181) #[] #[],.int .i64 1]) rfl rfl (by decide) j;have I:=J3 R (j.set (ou.take 5)) C;clear R j o Y C;go_enter func115,ntmps115;go_wp2;go_ret;exact⟨b,rfl,I.2.1,iy I.1 I.2.2⟩
theorem Cz (c:Nat)(w:World)(_:c<1114112):Calls prog 70 #[.int .i32 c] w fun e C=>e=.returned (.bool (c==32||c==9))∧w=C:=by
 have j:((c:Int)==32)=(c==32):=by rw[Bool.eq_iff_iff,cX,cX];omega
 have J:((c:Int)==9)=(c==9):=by rw[Bool.eq_iff_iff,cX,cX];omega
 cases o:(c==32) with
 |true=>rw[o] at j;go_enter func70,ntmps70;go_wp2;go_ret;exact⟨rfl,rfl⟩
 |false=>rw[o] at j;rw[Bool.false_or];go_enter func70,ntmps70;go_wp2;go_ret;exact⟨rfl,rfl⟩
end
theorem CJ (rd:Nat)(l u i o f:Value)(d:Nat)(s:ByteArray)(S:Nat→Prop)(A:Option Addr)(c:Nat)(w:World)(Y:al w rd 124 #[l,u,i,o,.int .i64 0,f])(I:cC S w (.slice A 1 c) [s])(hs:s.size≤65536)(J:dD s=true)(R:s.size=0∨dN s 0≠45)(hn:fM s=some d)(h1:1≤d)(h2:d≤64):
 Calls prog 181 #[.pointer (some ⟨rd,0,none⟩),.slice A 1 c] w fun e w'=>e=.returned (.int .i64 0)∧aa (fun b=>b≠rd) w w'∧al w' rd 124 #[l,u,i,o,.int .i64 d,f]:=by
 obtain⟨b,q,rfl,_,hc⟩:=ic I (i:=0) rfl;rw[cJ] at hc;have x4:=Y.cell 4;have y4:=Y.free 4;simp only[gc] at x4;have HB:=J2 Y hn;have HN:=oH (fun w1=>pY s w1 J R hs);clear Y I hn J R hs;go_enter func181,ntmps181;go_wp2_with fail;refine(HN.out _).mono ?_;rintro e w1 ⟨hk,v,rfl,I⟩;have a1:=I d HB.2;subst a1;have j:=HB.1.kept hk trivial;have x4:=j.cell 4;have y4:=j.free 4;have C:=j.set 4 (.int .i64 d);simp only[gc,ga] at x4 C;have H1:=J2 (hk.all (S:=fun b=>b≠rd)) C;have a6:decide ((d:Int)<1)=false:=by simp;omega
 have a7:decide ((64:Int)<(d:Int))=false:=by simp;omega
 clear hk j C I;go_wp2_with fail;go_ret;exact⟨rfl,H1.1.setCell (.inl fun h=>h rfl) _,H1.2⟩
end Go.Proofs.YtccbbkopmlnkpaaGreatDoor
