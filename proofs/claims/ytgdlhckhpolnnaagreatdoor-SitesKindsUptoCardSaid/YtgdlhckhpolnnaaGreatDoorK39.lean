/- Part 40 of the proof (its last part says what is proved). No condition. -/
import Derived.Test.YtgdlhckhpolnnaaGreatDoorK33
import Derived.Test.YtgdlhckhpolnnaaGreatDoorK38
namespace Go.Proofs.YtgdlhckhpolnnaaGreatDoor
set_option maxRecDepth 100000
set_option maxHeartbeats 8000000
open Go.RowKit Go.Proofs.Tryz
section
structure PB (w:World)(B pb:Nat)(p:cr)(A:Option Addr)(C k m:Nat):Prop where
 box:al w pb 102 #[.string p.s,.slice A p.l.length C,.int .i64 k,.int .i64 m]
 toks:WG (fun b=>b≠pb∧b<B) w (.slice A p.l.length C) p.l
 low:pb<B
 size:B≤w.heap.size
 le:k≤p.l.length
theorem PB.pat {w:World}{B pb:Nat}{p:cr}{A:Option Addr}{C k m:Nat}(h:PB w B pb p A C k m):Uo w pb p A C k m:=
 ⟨h.box,cu.wide (fun b j=>⟨j.1,by have:=h.size;omega⟩) h.toks,h.le⟩
theorem Uo.pb {w:World}{pb:Nat}{p:cr}{A:Option Addr}{C k m:Nat}(h:Uo w pb p A C k m):PB w w.heap.size pb p A C k m:=
 ⟨h.box,h.toks,h.box.lt,cf _,h.le⟩
theorem PB.moved {w w':World}{B pb:Nat}{p:cr}{A:Option Addr}{C k k' m j:Nat}(h:PB w B pb p A C k m)(hm:wi pb p A C k' j w w'):PB w' B pb p A C k' j:=
 ⟨hm.2.box,cu.keep (hm.1.mono fun _ o=>o.1) h.toks,h.low,fR h.size hm.1.size,hm.2.le⟩
theorem PB.kept {w w':World}{B pb:Nat}{p:cr}{A:Option Addr}{C k m:Nat}{S:Nat→Prop}(h:PB w B pb p A C k m)(j:aa S w w')(o:∀b,b<B→S b):PB w' B pb p A C k m:=
 ⟨h.box.kept j (o _ h.low),cu.keep (j.mono fun _ I=>o _ I.2) h.toks,h.low,fR h.size j.size,h.le⟩
def Wm (pb B i:Nat):Prop:=i≠pb∧i<B
abbrev Tx (B:Nat)(w:World)(v:Value)(l:List ByteArray):Prop:=w.ownsRow B 9 1 v l.length (l.map Value.string)
def Uh (w:World)(B C:Nat)(x:cX):Prop:=∃(j:Option Addr) (aC:Nat) (o:Option Addr) (fC:Nat),
 al w C 188 #[.int .u8 x.kind,.int .u8 x.op,.string x.dst,.string x.ref,.string x.Ni,.slice j x.args.length aC,.slice o x.Nh.length fC,.int .i64 x.num,.int .i64 x.Nj]∧
 Tx B w (.slice j x.args.length aC) x.args∧Tx B w (.slice o x.Nh.length fC) x.Nh∧(∀b,(Value.slice j x.args.length aC).ownBlock=some b→(Value.slice o x.Nh.length fC).ownBlock≠some b)∧B≤C
theorem Uu {w:World}{base:Nat}{t:TypeId}{size n:Nat}{v:Value}{xs:List Value}(h:w.ownsRow base t size v n xs){g:Nat}(j:v.ownBlock=some g):∃cs fr,w.heap[g]? =some (.cells cs t fr):=by
 rcases h.2 with ⟨rfl,_⟩|⟨g2,cap,cur,rfl,_,o,_⟩;·cases j
 cases j;exact⟨_,_,o⟩
theorem Ot {w:World}{base g:Nat}{t o:TypeId}{size n:Nat}{v:Value}{xs:List Value}{cs:Array Value}(h:w.ownsRow base t size v n xs){b:Nat}(C:v.ownBlock=some b)(I:al w g o cs)(J:t≠o):b≠g:=by obtain⟨R,fr,j⟩:=Uu h C;rintro rfl;rw[show w.heap[b]? =_ from I] at j;injection j with j;injection j with _ j;exact J j.symm
theorem eo {w:World}{B g n:Nat}{t:TypeId}{v:Value}{xs:List Value}{cs:Array Value}(h:w.ownsRow B 9 1 v n xs)(b:al w g t cs)(j:t≠9):v.ownBlock≠some g:=fun e=>(Ot h e b (Ne.symm j)) rfl
theorem Uh.put_args {w:World}{B C:Nat}{x:cX}{j aA I:Option Addr}{o aC fC:Nat}{s:ByteArray}
 (J:al w C 188 #[.int .u8 x.kind,.int .u8 x.op,.string x.dst,.string x.ref,.string x.Ni,.slice aA x.args.length aC,.slice I x.Nh.length fC,.int .i64 x.num,.int .i64 x.Nj])
 (hr:w.ownsRow B 9 1 (.slice j (x.args.length+1) o) (x.args.length+1) (x.args.map Value.string++[.string s])) (Y:Tx B w (.slice I x.Nh.length fC) x.Nh)
 (hs:∀b,(Value.slice j (x.args.length+1) o).ownBlock=some b→(Value.slice I x.Nh.length fC).ownBlock≠some b) (hB:B≤C):
 Uh (w.setCell ⟨C,5,none⟩ (.slice j (x.args.length+1) o)) B C {x with args:=x.args++[s]}:=by
 have k:aa (fun b=>b≠C) w (w.setCell ⟨C,5,none⟩ (.slice j (x.args.length+1) o)):=kR.setCell (.inl fun h=>h rfl) _;have h1:=be hr k fun g R=>by rintro rfl;exact eo hr J (by decide) R
 have h2:=be Y k fun g R=>by rintro rfl;exact eo Y J (by decide) R
 have h3:=J.set 5 (.slice j (x.args.length+1) o);simp only[ga] at h3;have hl:(x.args++[s]).length=x.args.length+1:=by simp
 refine⟨j,o,I,fC,?_,?_,h2,?_,hB⟩
 ·show al _ _ _ #[_,_,_,_,_,.slice j (x.args++[s]).length o,_,_,_]
  rw[hl];exact h3
 ·show Tx B _ (.slice j (x.args++[s]).length o) (x.args++[s])
  unfold Tx;rw[hl,ic];exact h1
 show∀b,(Value.slice j (x.args++[s]).length o).ownBlock=some b→_;rw[hl];exact hs
theorem Uh.put_frm {w:World}{B C:Nat}{x:cX}{j I fA:Option Addr}{o aC fC:Nat}{s:ByteArray}
 (J:al w C 188 #[.int .u8 x.kind,.int .u8 x.op,.string x.dst,.string x.ref,.string x.Ni,.slice I x.args.length aC,.slice fA x.Nh.length fC,.int .i64 x.num,.int .i64 x.Nj])
 (hr:w.ownsRow B 9 1 (.slice j (x.Nh.length+1) o) (x.Nh.length+1) (x.Nh.map Value.string++[.string s])) (hf:Tx B w (.slice I x.args.length aC) x.args)
 (hs:∀b,(Value.slice j (x.Nh.length+1) o).ownBlock=some b→(Value.slice I x.args.length aC).ownBlock≠some b) (hB:B≤C):
 Uh (w.setCell ⟨C,6,none⟩ (.slice j (x.Nh.length+1) o)) B C {x with Nh:=x.Nh++[s]}:=by
 have k:aa (fun b=>b≠C) w (w.setCell ⟨C,6,none⟩ (.slice j (x.Nh.length+1) o)):=kR.setCell (.inl fun h=>h rfl) _;have R:=be hr k fun g Y=>by rintro rfl;exact eo hr J (by decide) Y
 have h2:=be hf k fun g Y=>by rintro rfl;exact eo hf J (by decide) Y
 have h3:=J.set 6 (.slice j (x.Nh.length+1) o);simp only[ga] at h3;have hl:(x.Nh++[s]).length=x.Nh.length+1:=by simp
 refine⟨I,aC,j,o,?_,h2,?_,?_,hB⟩
 ·show al _ _ _ #[_,_,_,_,_,_,.slice j (x.Nh++[s]).length o,_,_]
  rw[hl];exact h3
 ·show Tx B _ (.slice j (x.Nh++[s]).length o) (x.Nh++[s])
  unfold Tx;rw[hl,ic];exact R
 show∀b,_→(Value.slice j (x.Nh++[s]).length o).ownBlock≠some b;rw[hl];exact fun b R h2=>hs b h2 R
theorem UL {v u f:Value}{n:Nat}{B:Nat}{W:World}{xs:List Value}(C:W.ownsRow B 9 1 f n xs)(I:∀b,v.ownBlock=some b→f.ownBlock≠some b){m:Nat}(hm:W.heap.size≤m)(h:u.ownBlock=v.ownBlock∨∀g,u.ownBlock=some g→m≤g):∀b,u.ownBlock=some b→f.ownBlock≠some b:=by
 intro b o;rcases h with h|h;·exact I b (h▸o)
 intro j;have:=(aD C j).2;have:=h b o;omega
theorem Uh.cellAt {w:World}{B o:Nat}{x:cX}(h:Uh w B o x)(j:Nat)(C:j<9):∃u,w.cell? ⟨o,j,none⟩=some u:=by obtain⟨J,aC,R,fC,I,_⟩:=h;rw[I.cell j];exact⟨_,Array.getElem?_eq_getElem (by simpa using C)⟩
theorem Uh.free {w:World}{B o:Nat}{x:cX}(h:Uh w B o x)(j:Nat):w.frozen? ⟨o,j,none⟩=false:=by obtain⟨I,aC,J,fC,C,_⟩:=h;exact C.free j
theorem Uh.kept {w w':World}{B o:Nat}{x:cX}{S:Nat→Prop}(h:Uh w B o x)(k:aa S w w')(R:S o)(J:∀b cs fr,B≤b→w.heap[b]? =some (.cells cs 9 fr)→S b):Uh w' B o x:=by obtain⟨Y,aC,fA,fC,hb,C,rf,hs,hB⟩:=h;exact⟨Y,aC,fA,fC,hb.kept k R,be C k fun g j=>by obtain⟨cs,fr,I⟩:=Uu C j;exact J g cs fr (aD C j).1 I,be rf k fun g j=>by obtain⟨cs,fr,I⟩:=Uu rf j;exact J g cs fr (aD rf j).1 I,hs,hB⟩
theorem Uh.set {w:World}{B o:Nat}{x x':cX}(h:Uh w B o x)(j:Nat)(v:Value)(C:x'.args=x.args)(I:x'.Nh=x.Nh)
 (hc:∀a f:Value,([.int .u8 x.kind,.int .u8 x.op,.string x.dst,.string x.ref,.string x.Ni,a,f,.int .i64 x.num,.int .i64 x.Nj]:List Value).set j v=[.int .u8 x'.kind,.int .u8 x'.op,.string x'.dst,.string x'.ref,.string x'.Ni,a,f,.int .i64 x'.num,.int .i64 x'.Nj]):Uh (w.setCell ⟨o,j,none⟩ v) B o x':=by
 have k:aa (fun b=>b≠o) w (w.setCell ⟨o,j,none⟩ v):=kR.setCell (.inl fun h=>h rfl) _;obtain⟨aA,aC,fA,fC,J,Y,rf,hs,hB⟩:=h;have h1:=be Y k fun g R=>by rintro rfl;exact eo Y J (by decide) R
 have h2:=be rf k fun g R=>by rintro rfl;exact eo rf J (by decide) R
 have h3:=J.set j v;rw[List.setIfInBounds_toArray,hc] at h3;refine⟨aA,aC,fA,fC,?_,?_,?_,?_,hB⟩;·rw[C,I];exact h3
 ·rw[C];exact h1
 ·rw[I];exact h2
 rw[C,I];exact hs
structure St (w0:World)(B pb xb:Nat)(p:cr)(A:Option Addr)(C m:Nat)(k:Nat)(x:cX)(w:World):Prop where
 kept:aa (Wm pb B) w0 w
 par:PB w B pb p A C k m
 Nb:Uh w B xb x
section
variable {w0 w w':World} {B pb xb:Nat} {p:cr} {A:Option Addr} {C m k k':Nat} {x x':cX}
theorem St.first (h:PB w B pb p A C k m)(j:Uh w B xb x):St w B pb xb p A C m k x w:=⟨kR,h,j⟩
theorem St.ne (h:St w0 B pb xb p A C m k x w):xb≠pb:=by obtain⟨o,aC,I,fC,j,_⟩:=h.Nb;exact j.ne h.par.box (by decide)
theorem St.moved {o:Nat}(h:St w0 B pb xb p A C m k x w)(hm:wi pb p A C k' o w w'):St w0 B pb xb p A C o k' x w':=by refine⟨h.kept.trans (hm.1.mono fun _ I=>I.1),h.par.moved hm,h.Nb.kept hm.1 h.ne fun b cs fr _ j e=>?_⟩;subst e;rw[show w.heap[b]? =_ from h.par.box] at j;injection j with j;injection j with _ j;exact absurd j (by decide)
theorem St.all (h:St w0 B pb xb p A C m k x w)(j:aa All w w'):St w0 B pb xb p A C m k x w':=
 ⟨h.kept.trans j.all,h.par.kept j fun _ _=>trivial,h.Nb.kept j trivial fun _ _ _ _ _=>trivial⟩
theorem Ts (h:St w0 B pb xb p A C m k x w)(h':St w B pb xb p A C m k' x' w'):St w0 B pb xb p A C m k' x' w':=⟨h.kept.trans h'.kept,h'.par,h'.Nb⟩
theorem Uh.low (h:Uh w B xb x):B≤xb:=by obtain⟨o,aC,I,fC,J,R,rf,Y,j⟩:=h;exact j
theorem St.set (h:St w0 B pb xb p A C m k x w)(j:Nat)(v:Value)(J:x'.args=x.args)(R:x'.Nh=x.Nh)
 (Y:∀a f:Value,([.int .u8 x.kind,.int .u8 x.op,.string x.dst,.string x.ref,.string x.Ni,a,f,.int .i64 x.num,.int .i64 x.Nj]:List Value).set j v=[.int .u8 x'.kind,.int .u8 x'.op,.string x'.dst,.string x'.ref,.string x'.Ni,a,f,.int .i64 x'.num,.int .i64 x'.Nj]):St w0 B pb xb p A C m k x' (w.setCell ⟨xb,j,none⟩ v):=by
 have hB:=h.Nb.low;have o:aa (fun b=>b≠xb) w (w.setCell ⟨xb,j,none⟩ v):=kR.setCell (.inl fun h=>h rfl) _;exact⟨h.kept.trans (o.mono fun b I=>by have:=I.2;show b≠xb;omega),h.par.kept o fun b I=>by show b≠xb;omega,h.Nb.set j v J R Y⟩
end
theorem Ue {W:World}{B pb:Nat}{p:cr}{A:Option Addr}{C k m:Nat}{v:Value}{n:Nat}{xs:List Value}{S:Value→Prop}(h:PB W B pb p A C k m)(r:W.ownsRow B 9 1 v n xs):
 Vb W (fun i=>i≠pb) v (fun b w=>PB w B pb p A C (if b then k+1 else k) m) (fun y _=>S y) where
 big:=fun i hi e=>by have:=h.low;have:=h.size;omega
 own:=fun b j=>⟨fun e=>by subst e;exact eo r h.box (by decide) j,(aD r j).2⟩
 ps:=fun b w w' o I=>I.kept o fun i hi e=>by have:=(aD r e).1;omega
 c:=fun _ _ _ _ h=>h
end
theorem UP:(prog.info? 9).map (fun i=>(i.zero,i.size,i.bytes))=some (some (.string ⟨#[]⟩),1,16):=by kernel_rfl
def Ua (B pb j:Nat)(p:cr)(A:Option Addr)(C m:Nat)(k':Nat)(x':cX)(w:World)(e:Ending)(w':World):Prop:=e=.returned (.tuple #[])∧St w B pb j p A C m k' x' w'
theorem Vy {J w w':World}{B pb o j k m:Nat}{p:cr}{A:Option Addr}{C:Nat}{x x':cX}{k':Nat}{v u:Value}{n:Nat}{xs:List Value}(h:St J B pb o p A C m k x w)(ro:w.ownsRow B 9 1 v n xs)
 (R:aa (fun i=>v.ownBlock≠some i∧i≠pb) w w') (Y:PB w' B pb p A C k' m) (hX:Uh (w'.setCell ⟨o,j,none⟩ u) B o x'):St J B pb o p A C m k' x' (w'.setCell ⟨o,j,none⟩ u):=by
 have hB:=h.Nb.low;have kx:aa (fun b=>b≠o) w' (w'.setCell ⟨o,j,none⟩ u):=kR.setCell (.inl fun h=>h rfl) _;exact⟨(h.kept.trans (R.mono fun b I=>⟨fun e=>by have:=(aD ro e).1;have:=I.2;omega,I.1⟩)).trans (kx.mono fun b I=>by have:=I.2;show b≠o;omega),Y.kept kx fun b I=>by show b≠o;omega,hX⟩
theorem WH (B pb j:Nat)(p:cr)(A:Option Addr)(C k m:Nat)(x:cX)(w:World)(h:PB w B pb p A C k m)(o:Uh w B j x)(J:p.Ok)(R:p.is k 1=true):
 Calls prog 227 #[.pointer (some ⟨pb,0,none⟩),.pointer (some ⟨j,0,none⟩)] w (Ua B pb j p A C m (k+1) {x with kind:=11,ref:=p.txt k} w):=by
 have I:=oH (St.first h o);clear h o;go_enter func227,ntmps227;go_wp2_with fail;refine(xi pb p A C _ m _ I.out.par.pat J R).mono ?_;rintro e w1 ⟨rfl,hm⟩;have H1:=oH (I.out.moved hm);clear hm;obtain⟨u0,Y⟩:=H1.out.Nb.cellAt 0 (by decide);have a1:=H1.out.Nb.free 0;obtain⟨u3,a6⟩:=H1.out.Nb.cellAt 3 (by decide);have a7:=H1.out.Nb.free 3;go_wp2_with fail
 go_end0
 exact⟨rfl,(H1.out.set 0 (.int .u8 11) (x':= {x with kind:=11}) rfl rfl (fun _ _=>rfl)).set 3 (.string (p.txt k)) rfl rfl (fun _ _=>rfl)⟩
theorem WX (B pb xb:Nat)(p:cr)(A:Option Addr)(C k m:Nat)(x:cX)(w:World)(h:PB w B pb p A C k m)(hx:Uh w B xb x)(hp:p.Ok)(hq:p.is k 1=true)(hl:x.args.length≤1000):
 Calls prog 229 #[.pointer (some ⟨pb,0,none⟩),.pointer (some ⟨xb,0,none⟩)] w (Ua B pb xb p A C m (k+1) {x with kind:=13,args:=x.args++[p.txt k]} w):=by
 obtain⟨iS,IS⟩:=iH UP;have H0:=oH (St.first h hx);clear h hx;go_enter func229,ntmps229;obtain⟨u0,a6⟩:=H0.out.Nb.cellAt 0 (by decide);have a7:=H0.out.Nb.free 0;go_upto_region 1 with fail;have h2:=H0.out.set 0 (.int .u8 13) (x':= {x with kind:=13}) rfl rfl (fun _ _=>rfl);generalize w.setCell _ _=W1 at*;have H1:=oH h2;clear h2 a6 a7;obtain⟨aA,aC,fA,fC,hb,ra,rf,J,Y⟩:=H1.out.Nb;have HC:=oH (fun wn (hn:PB wn B pb p A C (k) m)=>xi pb p A C _ m wn hn.pat hp hq);have HV:=oH (fun wn (hn:aa (fun i=>(Value.ownBlock (.slice aA (x).args.length aC))≠some i∧i≠pb) W1 wn)=>show wn.cell? ⟨xb,5,none⟩=some (.slice aA (x).args.length aC) from(hb.kept hn ⟨eo ra hb (by decide),H1.out.ne⟩).cell 5);have HG:=oH (Ue (k:=k) (S:=fun y=>y=.string (p.txt (k))) H1.out.par ra);have HR:=J3 ra (show PB W1.drew B pb p A C (if false=true then(k)+1 else(k)) m from H1.out.par.kept (S:=All) kR.drew fun _ _=>trivial) H1.out.par.size;have o:=J4 hb rf J Y;clear hb ra rf J Y;refine hH 11 6 [7,8] (SY W1 (fun i=>i≠pb) B 9 1 (.slice aA (x).args.length aC) (x).args.length ((x).args.map Value.string) (fun b w=>PB w B pb p A C (if b then(k)+1 else(k)) m)) [13,14,15] (FY W1 (fun i=>i≠pb) B 9 1 (.slice aA (x).args.length aC) (x).args.length ((x).args.map Value.string) (fun y=>[y]) (fun y _=>y=.string (p.txt (k))) 14 13) (fun i=>if i=6 then some (fun y=>y=.string (p.txt (k))) else if i=7 then some Oa else if i=8 then some (NT (x).args.length) else none) (fun _=>false) (fun _ _=>False) (by kernel_rfl) (by kernel_rfl) (by kernel_rfl) (by kernel_rfl) (VJ _ _ _) (by kernel_rfl) (by decide) (SY.first HR.1 HR.2.1) (fun _ _ _ h=>h.elim) ?_;simp only[tK];iterate 6 refine OY (fun b wn R hp=>by(have q:=HV.out wn R.1;skip;go_simp;with_reducible rfl)) ?_
 refine Hy (V:=(fun y=>y=.string (p.txt (k)))) HG.out (by rfl) (by rfl) (by rfl) rfl (by decide) (fun wn R=>⟨_,_,by(have q:=HV.out wn R.1;go_simp<;>with_reducible rfl),(HC.out wn R.2.2).mono fun e w' h=>⟨_,h.1,rfl,h.2.1,R.2.2.moved h.2,rfl⟩⟩) ?_;rintro u rfl;simp only[PS];refine Tv HG.out (by decide) (by rfl) (by rfl) (by rfl) rfl (by decide) _ rfl (by decide) (fun wn R=>by(skip;go_simp<;>with_reducible rfl)) ?_;intro g;simp only[PS];refine Tu HG.out (by decide) (by rfl) (by rfl) (by rfl) rfl (by decide) (by decide) (.tmp 11) 22 rfl iS _ 16 underlying22 IS.1 IS.2.1 IS.2.2.1 IS.2.2.2 rfl (by decide) rfl g rfl (by decide) (fun y w hy=>by subst hy;exact⟨rfl,fun u hu=>by rw[cx.1 hu];rfl⟩) (by unfold maxLen;show x.args.length+1≤_;omega) (by show(x.args.length+1)*16≤_;omega) HR.2.2 ?_;intro A5 c5;simp only[PS];iterate 2 refine OY (fun b wn R hp=>by(have q:=HV.out wn R.1;skip;go_simp;with_reducible rfl)) ?_
 refine TE fun wt a1 hF=>?_;have I:=hF 15 (by simp) _ rfl;unfold FY at I;rw[ae (by decide),ae (by decide)] at I;have HT:=oH (show SY _ _ _ _ _ _ _ _ _ _ _ from a1);have HA:=oH I;clear a1 hF I;simp only[dK];have j:=o.1.kept HT.1 ⟨eo HR.1 o.1 (by decide),H1.out.ne⟩;have b5:=j.cl 5;have f5:=j.free 5;clear j;go_wp2_with fail
 go_end0
 obtain⟨y,wz,q1,rfl,q3,q4,q5⟩:=HA.out;have j:=o.1.kept HT.1 ⟨eo HR.1 o.1 (by decide),H1.out.ne⟩;have a8:=be o.2.1 HT.1 fun g hg=>⟨fun e=>o.2.2.1 g e hg,by rintro rfl;exact eo o.2.1 H1.out.par.box (by decide) hg⟩;have hX:=Uh.put_args (x:= {x with kind:=13}) j q1 a8 (UL o.2.1 o.2.2.1 q3 q5) o.2.2.2;have b0:=Vy H1.out HR.1 HT.1 HT.2.2 hX;exact⟨rfl,b0⟩
theorem VC (B pb xb:Nat)(p:cr)(A:Option Addr)(C k m:Nat)(x:cX)(w:World)(h:PB w B pb p A C k m)(hx:Uh w B xb x)(hp:p.Ok)(hq:p.is k 1=true)(b0:p.is (k+1) 1=true)(b1:p.is (k+1+1) 1=true)(hl:x.args.length≤1000):
 Calls prog 228 #[.pointer (some ⟨pb,0,none⟩),.pointer (some ⟨xb,0,none⟩)] w (Ua B pb xb p A C m (k+1+1+1) {x with kind:=12,args:=x.args++[p.txt k],ref:=p.txt (k+1),Ni:=p.txt (k+1+1)} w):=by
 obtain⟨iS,IS⟩:=iH UP;have H0:=oH (St.first h hx);clear h hx;go_enter func228,ntmps228;obtain⟨u0,b2⟩:=H0.out.Nb.cellAt 0 (by decide);have b3:=H0.out.Nb.free 0;go_upto_region 1 with fail;have h2:=H0.out.set 0 (.int .u8 12) (x':= {x with kind:=12}) rfl rfl (fun _ _=>rfl);generalize w.setCell _ _=W1 at*;have H1:=oH h2;clear h2 b2 b3;obtain⟨aA,aC,fA,fC,hb,ra,rf,J,a1⟩:=H1.out.Nb;have HC:=oH (fun wn (hn:PB wn B pb p A C (k) m)=>xi pb p A C _ m wn hn.pat hp hq);have HV:=oH (fun wn (hn:aa (fun i=>(Value.ownBlock (.slice aA (x).args.length aC))≠some i∧i≠pb) W1 wn)=>show wn.cell? ⟨xb,5,none⟩=some (.slice aA (x).args.length aC) from(hb.kept hn ⟨eo ra hb (by decide),H1.out.ne⟩).cell 5);have HG:=oH (Ue (k:=k) (S:=fun y=>y=.string (p.txt (k))) H1.out.par ra);have HR:=J3 ra (show PB W1.drew B pb p A C (if false=true then(k)+1 else(k)) m from H1.out.par.kept (S:=All) kR.drew fun _ _=>trivial) H1.out.par.size;have o:=J4 hb rf J a1;clear hb ra rf J a1;refine hH 11 6 [7,8] (SY W1 (fun i=>i≠pb) B 9 1 (.slice aA (x).args.length aC) (x).args.length ((x).args.map Value.string) (fun b w=>PB w B pb p A C (if b then(k)+1 else(k)) m)) [13,14,15] (FY W1 (fun i=>i≠pb) B 9 1 (.slice aA (x).args.length aC) (x).args.length ((x).args.map Value.string) (fun y=>[y]) (fun y _=>y=.string (p.txt (k))) 14 13) (fun i=>if i=6 then some (fun y=>y=.string (p.txt (k))) else if i=7 then some Oa else if i=8 then some (NT (x).args.length) else none) (fun _=>false) (fun _ _=>False) (by kernel_rfl) (by kernel_rfl) (by kernel_rfl) (by kernel_rfl) (VJ _ _ _) (by kernel_rfl) (by decide) (SY.first HR.1 HR.2.1) (fun _ _ _ h=>h.elim) ?_;simp only[tK];iterate 6 refine OY (fun b wn R hp=>by(have q:=HV.out wn R.1;skip;go_simp;with_reducible rfl)) ?_
 refine Hy (V:=(fun y=>y=.string (p.txt (k)))) HG.out (by rfl) (by rfl) (by rfl) rfl (by decide) (fun wn R=>⟨_,_,by(have q:=HV.out wn R.1;go_simp<;>with_reducible rfl),(HC.out wn R.2.2).mono fun e w' h=>⟨_,h.1,rfl,h.2.1,R.2.2.moved h.2,rfl⟩⟩) ?_;rintro u rfl;simp only[PS];refine Tv HG.out (by decide) (by rfl) (by rfl) (by rfl) rfl (by decide) _ rfl (by decide) (fun wn R=>by(skip;go_simp<;>with_reducible rfl)) ?_;intro g;simp only[PS];refine Tu HG.out (by decide) (by rfl) (by rfl) (by rfl) rfl (by decide) (by decide) (.tmp 11) 22 rfl iS _ 16 underlying22 IS.1 IS.2.1 IS.2.2.1 IS.2.2.2 rfl (by decide) rfl g rfl (by decide) (fun y w hy=>by subst hy;exact⟨rfl,fun u hu=>by rw[cx.1 hu];rfl⟩) (by unfold maxLen;show x.args.length+1≤_;omega) (by show(x.args.length+1)*16≤_;omega) HR.2.2 ?_;intro A5 c5;simp only[PS];iterate 2 refine OY (fun b wn R hp=>by(have q:=HV.out wn R.1;skip;go_simp;with_reducible rfl)) ?_
 refine TE fun wt a6 hF=>?_;have I:=hF 15 (by simp) _ rfl;unfold FY at I;rw[ae (by decide),ae (by decide)] at I;have Y:=oH (show SY _ _ _ _ _ _ _ _ _ _ _ from a6);have HA:=oH I;clear a6 hF I;simp only[dK];have j:=o.1.kept Y.1 ⟨eo HR.1 o.1 (by decide),H1.out.ne⟩;have b5:=j.cl 5;have f5:=j.free 5;clear j;go_upto_region 2 with fail;obtain⟨y,wz,q1,rfl,q3,q4,q5⟩:=HA.out;have j:=o.1.kept Y.1 ⟨eo HR.1 o.1 (by decide),H1.out.ne⟩;have a7:=be o.2.1 Y.1 fun g hg=>⟨fun e=>o.2.2.1 g e hg,by rintro rfl;exact eo o.2.1 H1.out.par.box (by decide) hg⟩;have hX:=Uh.put_args (x:= {x with kind:=12}) j q1 a7 (UL o.2.1 o.2.2.1 q3 q5) o.2.2.2;have a8:=Vy H1.out HR.1 Y.1 Y.2.2 hX;generalize wt.setCell _ _=b7 at*;have H2:=oH a8;clear j a7 hX a8 q1 q3 q4 q5 b5 f5 HA Y o HR HG HV HC;go_wp2_with fail;refine(xi pb p A C _ m _ H2.out.par.pat hp b0).mono ?_;rintro e w3 ⟨rfl,hm⟩;have H3:=oH (H2.out.moved hm);clear hm;obtain⟨u3,b4⟩:=H3.out.Nb.cellAt 3 (by decide);have b6:=H3.out.Nb.free 3;go_upto_region 3 with fail;have h2:=H3.out.set 3 (.string (p.txt (k+1))) (x':= {x with kind:=12,args:=x.args++[p.txt k],ref:=p.txt (k+1)}) rfl rfl (fun _ _=>rfl);generalize w3.setCell _ _=W4 at*;have H4:=oH h2;clear h2 b4 b6;go_wp2_with fail;refine(xi pb p A C _ m _ H4.out.par.pat hp b1).mono ?_;rintro e w5 ⟨rfl,hm⟩;have H5:=oH (H4.out.moved hm);clear hm;obtain⟨u4,b8⟩:=H5.out.Nb.cellAt 4 (by decide);have b9:=H5.out.Nb.free 4;go_wp2_with fail
 go_end0
 exact⟨rfl,H5.out.set 4 (.string (p.txt (k+1+1))) rfl rfl (fun _ _=>rfl)⟩
theorem WM {s:ByteArray}(j:Ab s=true){n:Nat}(h:Os s=some n):s.size=0∨Ai s 0≠45:=by
 by_cases o:s.size=0;·exact .inl o
 right;unfold Os at h;split at h;·cases h
 intro e;rw[Ui (by omega),(TI j (by omega)).2.2] at h;simp only[e] at h;rw[ae (by decide)] at h;cases h
theorem TJ {p:cr}(j:p.Ok)(k:Nat):Ab (p.txt k)=true∧(p.txt k).size≤65536:=by
 unfold cr.txt;cases o:p.l[k]? with
 |none=>exact⟨by kernel_rfl,by show gR.size≤_;decide⟩
 |some t=>have h:=j.tok t (mG o);have C:=j.size;exact⟨Ug j.plain _ _,by show(p.s.extract t.beg t.fin).size≤_;rw[TS _ _ _ h.2.1];omega⟩
theorem VN (pb:Nat)(p:cr)(A:Option Addr)(C k m n:Nat)(w:World)(h:Uo w pb p A C k m)(o:p.Ok)(R:p.is k 3=true)(I:Os (p.txt k)=some n):
 Calls prog 82 #[.pointer (some ⟨pb,0,none⟩)] w fun e w'=>e=.returned (.int .i64 n)∧wi pb p A C (k+1) m w w':=by
 have HT:=oH (Vi pb p A C k m 3 w h o R);have HN:=oH (fun w=>VU (p.txt k) w (TJ o k).1 (WM (TJ o k).1 I) (TJ o k).2);have HQ:=oH I;clear h R I;go_enter func82,ntmps82;go_wp2_with fail;refine HT.out.mono ?_;rintro e w1 ⟨rfl,hm⟩;have Y:=oH hm;clear hm;go_wp2_with fail;refine(HN.out w1).mono ?_;rintro e w2 ⟨j,v,rfl,hv⟩;have J:=hv n HQ.out;subst J;have HK:=oH j;clear j hv;go_wp2_with fail;go_ret;exact⟨rfl,Y.1.trans HK.out.all,Y.2.keep HK.out⟩
theorem qee (B pb j:Nat)(p:cr)(A:Option Addr)(C k m:Nat)(x:cX)(w:World)(h:PB w B pb p A C k m)(o:Uh w B j x)(J:p.Ok)(n:Nat)(R:p.is k 3=true)(Y:Os (p.txt k)=some n):
 Calls prog 253 #[.pointer (some ⟨pb,0,none⟩),.pointer (some ⟨j,0,none⟩)] w (Ua B pb j p A C m (k+1) {x with kind:=1,num:=n} w):=by
 have I:=oH (St.first h o);clear h o;go_enter func253,ntmps253;go_wp2_with fail;refine(VN pb p A C k m n w I.out.par.pat J R Y).mono ?_;rintro e w1 ⟨rfl,hm⟩;have H1:=oH (I.out.moved hm);clear hm;obtain⟨u0,a1⟩:=H1.out.Nb.cellAt 0 (by decide);have a6:=H1.out.Nb.free 0;obtain⟨u7,a7⟩:=H1.out.Nb.cellAt 7 (by decide);have a8:=H1.out.Nb.free 7;go_wp2_with fail
 go_end0
 exact⟨rfl,(H1.out.set 0 (.int .u8 1) (x':= {x with kind:=1}) rfl rfl (fun _ _=>rfl)).set 7 (.int .i64 n) rfl rfl (fun _ _=>rfl)⟩
def TN (w:World)(g0 g1 j pb:Nat):Prop:=al w g0 272 #[.pointer (some ⟨j,0,none⟩)]∧al w g1 100 #[.pointer (some ⟨pb,0,none⟩)]∧g0≠pb∧g1≠pb
theorem TN.kept {w w':World}{g0 g1 j pb:Nat}{S:Nat→Prop}(h:TN w g0 g1 j pb)(k:aa S w w')(o:S g0)(C:S g1):TN w' g0 g1 j pb:=⟨h.1.kept k o,h.2.1.kept k C,h.2.2⟩
def Wt (g0 g1:Nat)(B pb j:Nat)(p:cr)(A:Option Addr)(C m:Nat)(k':Nat)(x':cX)(w:World)(e:Ending)(w':World):Prop:=e=.returned (.tuple #[])∧St w B pb j p A C m k' x' w'∧TN w' g0 g1 j pb
theorem Xo (B pb xb:Nat)(p:cr)(A:Option Addr)(C k m:Nat)(x:cX)(w:World)(h:PB w B pb p A C k m)(hx:Uh w B xb x)(hp:p.Ok)(g0 g1:Nat)(hb:TN w g0 g1 xb pb)(hq:p.is k 1=true)(b3:p.txt (k+1)=⟨#[58]⟩)(b4:p.is (k+1+1) 1=true)(hl:x.args.length≤1000)(b7:x.Nh.length≤1000):
 Calls prog 258 #[.pointer (some ⟨g0,0,none⟩),.pointer (some ⟨g1,0,none⟩)] w (Wt g0 g1 B pb xb p A C m (k+1+1+1) {x with Nh:=x.Nh++[p.txt k],args:=x.args++[p.txt (k+1+1)]} w):=by
 obtain⟨iS,IS⟩:=iH UP;have H0:=oH (St.first h hx);have HB:=oH hb;clear h hx hb;go_enter func258,ntmps258;go_upto_region 0 with fail;obtain⟨aA,aC,fA,fC,hb,ra,rf,R,a1⟩:=H0.out.Nb;have HC:=oH (fun wn (hn:PB wn B pb p A C (k) m)=>xi pb p A C _ m wn hn.pat hp hq);have HV:=oH (fun wn (hn:aa (fun i=>(Value.ownBlock (.slice fA (x).Nh.length fC))≠some i∧i≠pb) w wn)=>show wn.cell? ⟨g0,0,none⟩=some (.pointer (some ⟨xb,0,none⟩))∧wn.cell? ⟨g1,0,none⟩=some (.pointer (some ⟨pb,0,none⟩))∧wn.cell? ⟨xb,6,none⟩=some (.slice fA (x).Nh.length fC) from⟨(HB.1.kept hn ⟨eo rf HB.1 (by decide),HB.2.2.1⟩).cell 0,(HB.2.1.kept hn ⟨eo rf HB.2.1 (by decide),HB.2.2.2⟩).cell 0,(hb.kept hn ⟨eo rf hb (by decide),H0.out.ne⟩).cell 6⟩);have HG:=oH (Ue (k:=k) (S:=fun y=>y=.string (p.txt (k))) H0.out.par rf);have HR:=J3 rf (show PB w.drew B pb p A C (if false=true then(k)+1 else(k)) m from H0.out.par.kept (S:=All) kR.drew fun _ _=>trivial) H0.out.par.size;have o:=J4 hb ra (fun b h1 h2=>R b h2 h1) a1;clear hb ra rf R a1;refine hH 11 6 [7,8] (SY w (fun i=>i≠pb) B 9 1 (.slice fA (x).Nh.length fC) (x).Nh.length ((x).Nh.map Value.string) (fun b w=>PB w B pb p A C (if b then(k)+1 else(k)) m)) [8,9,10] (FY w (fun i=>i≠pb) B 9 1 (.slice fA (x).Nh.length fC) (x).Nh.length ((x).Nh.map Value.string) (fun y=>[y]) (fun y _=>y=.string (p.txt (k))) 9 8) (fun i=>if i=6 then some (fun y=>y=.string (p.txt (k))) else if i=7 then some Oa else if i=8 then some (NT (x).Nh.length) else none) (fun _=>false) (fun _ _=>False) (by kernel_rfl) (by kernel_rfl) (by kernel_rfl) (by kernel_rfl) (VJ _ _ _) (by kernel_rfl) (by decide) (SY.first HR.1 HR.2.1) (fun _ _ _ h=>h.elim) ?_;simp only[tK];iterate 6 refine OY (fun b wn Y hp=>by(obtain⟨q0,q1,q2⟩:=HV.out wn Y.1;skip;go_simp;with_reducible rfl)) ?_
 refine Hy (V:=(fun y=>y=.string (p.txt (k)))) HG.out (by rfl) (by rfl) (by rfl) rfl (by decide) (fun wn Y=>⟨_,_,by(obtain⟨q0,q1,q2⟩:=HV.out wn Y.1;go_simp<;>with_reducible rfl),(HC.out wn Y.2.2).mono fun e w' h=>⟨_,h.1,rfl,h.2.1,Y.2.2.moved h.2,rfl⟩⟩) ?_;rintro u rfl;simp only[PS];refine Tv HG.out (by decide) (by rfl) (by rfl) (by rfl) rfl (by decide) _ rfl (by decide) (fun wn Y=>by(skip;go_simp<;>with_reducible rfl)) ?_;intro g;simp only[PS];refine Tu HG.out (by decide) (by rfl) (by rfl) (by rfl) rfl (by decide) (by decide) (.tmp 6) 22 rfl iS _ 16 underlying22 IS.1 IS.2.1 IS.2.2.1 IS.2.2.2 rfl (by decide) rfl g rfl (by decide) (fun y w hy=>by subst hy;exact⟨rfl,fun u hu=>by rw[cx.1 hu];rfl⟩) (by unfold maxLen;show x.Nh.length+1≤_;omega) (by show(x.Nh.length+1)*16≤_;omega) HR.2.2 ?_;intro A5 c5;simp only[PS];iterate 2 refine OY (fun b wn Y hp=>by(obtain⟨q0,q1,q2⟩:=HV.out wn Y.1;skip;go_simp;with_reducible rfl)) ?_
 refine TE fun wt a6 hF=>?_;have J:=hF 10 (by simp) _ rfl;unfold FY at J;rw[ae (by decide),ae (by decide)] at J;have HT:=oH (show SY _ _ _ _ _ _ _ _ _ _ _ from a6);have HA:=oH J;clear a6 hF J;simp only[dK];have I:=o.1.kept HT.1 ⟨eo HR.1 o.1 (by decide),H0.out.ne⟩;have b5:=I.cl 6;have f5:=I.free 6;clear I;go_upto_region 1 with fail;obtain⟨y,wz,q1,rfl,q3,q4,q5⟩:=HA.out;have I:=o.1.kept HT.1 ⟨eo HR.1 o.1 (by decide),H0.out.ne⟩;have a7:=be o.2.1 HT.1 fun g hg=>⟨fun e=>o.2.2.1 g e hg,by rintro rfl;exact eo o.2.1 H0.out.par.box (by decide) hg⟩;have hX:=Uh.put_frm (x:=x) I q1 a7 (UL o.2.1 o.2.2.1 q3 q5) o.2.2.2;have a8:=Vy H0.out HR.1 HT.1 HT.2.2 hX;have b0:aa (fun b=>b≠xb) wt (wt.setCell ⟨xb,6,none⟩ (.slice A5 (x.Nh.length+1) c5)):=kR.setCell (.inl fun h=>h rfl) _;have n0:g0≠xb:=HB.1.ne o.1 (by decide);have n1:g1≠xb:=HB.2.1.ne o.1 (by decide);have b1:=(HB.out.kept HT.1 ⟨eo HR.1 HB.1 (by decide),HB.2.2.1⟩ ⟨eo HR.1 HB.2.1 (by decide),HB.2.2.2⟩).kept b0 n0 n1;generalize wt.setCell _ _=b6 at*;have b2:=oH b1;have H1:=oH a8;clear I a7 hX a8 q1 q3 q4 q5 b5 f5 HA HT o HR HG HV HC b0 b1;have c1:=b2.2.1.cl 0;go_wp2_with fail;refine(Ar pb p A C (k+1) m ⟨#[58]⟩ b6 H1.out.par.pat hp b3 (by decide)).mono ?_;rintro e W2 ⟨rfl,hm⟩;have H2:=oH (H1.out.moved hm);have j:=oH (b2.out.kept hm.1 b2.2.2.1 b2.2.2.2);clear hm c1;go_upto_region 2 with fail;obtain⟨aA,aC,fA,fC,hb,ra,rf,R,a1⟩:=H2.out.Nb;have HC:=oH (fun wn (hn:PB wn B pb p A C (k+1+1) m)=>xi pb p A C _ m wn hn.pat hp b4);have HV:=oH (fun wn (hn:aa (fun i=>(Value.ownBlock (.slice aA (x).args.length aC))≠some i∧i≠pb) W2 wn)=>show wn.cell? ⟨g0,0,none⟩=some (.pointer (some ⟨xb,0,none⟩))∧wn.cell? ⟨g1,0,none⟩=some (.pointer (some ⟨pb,0,none⟩))∧wn.cell? ⟨xb,5,none⟩=some (.slice aA (x).args.length aC) from⟨(j.1.kept hn ⟨eo ra j.1 (by decide),j.2.2.1⟩).cell 0,(j.2.1.kept hn ⟨eo ra j.2.1 (by decide),j.2.2.2⟩).cell 0,(hb.kept hn ⟨eo ra hb (by decide),H2.out.ne⟩).cell 5⟩);have HG:=oH (Ue (k:=k+1+1) (S:=fun y=>y=.string (p.txt (k+1+1))) H2.out.par ra);have HR:=J3 ra (show PB W2.drew B pb p A C (if false=true then(k+1+1)+1 else(k+1+1)) m from H2.out.par.kept (S:=All) kR.drew fun _ _=>trivial) H2.out.par.size;have o:=J4 hb rf R a1;clear hb ra rf R a1;refine hH 11 6 [7,8] (SY W2 (fun i=>i≠pb) B 9 1 (.slice aA (x).args.length aC) (x).args.length ((x).args.map Value.string) (fun b w=>PB w B pb p A C (if b then(k+1+1)+1 else(k+1+1)) m)) [21,22,23] (FY W2 (fun i=>i≠pb) B 9 1 (.slice aA (x).args.length aC) (x).args.length ((x).args.map Value.string) (fun y=>[y]) (fun y _=>y=.string (p.txt (k+1+1))) 22 21) (fun i=>if i=6 then some (fun y=>y=.string (p.txt (k+1+1))) else if i=7 then some Oa else if i=8 then some (NT (x).args.length) else none) (fun _=>false) (fun _ _=>False) (by kernel_rfl) (by kernel_rfl) (by kernel_rfl) (by kernel_rfl) (VJ _ _ _) (by kernel_rfl) (by decide) (SY.first HR.1 HR.2.1) (fun _ _ _ h=>h.elim) ?_;simp only[tK];iterate 6 refine OY (fun b wn Y hp=>by(obtain⟨q0,q1,q2⟩:=HV.out wn Y.1;skip;go_simp;with_reducible rfl)) ?_
 refine Hy (V:=(fun y=>y=.string (p.txt (k+1+1)))) HG.out (by rfl) (by rfl) (by rfl) rfl (by decide) (fun wn Y=>⟨_,_,by(obtain⟨q0,q1,q2⟩:=HV.out wn Y.1;go_simp<;>with_reducible rfl),(HC.out wn Y.2.2).mono fun e w' h=>⟨_,h.1,rfl,h.2.1,Y.2.2.moved h.2,rfl⟩⟩) ?_;rintro u rfl;simp only[PS];refine Tv HG.out (by decide) (by rfl) (by rfl) (by rfl) rfl (by decide) _ rfl (by decide) (fun wn Y=>by(skip;go_simp<;>with_reducible rfl)) ?_;intro g;simp only[PS];refine Tu HG.out (by decide) (by rfl) (by rfl) (by rfl) rfl (by decide) (by decide) (.tmp 19) 22 rfl iS _ 16 underlying22 IS.1 IS.2.1 IS.2.2.1 IS.2.2.2 rfl (by decide) rfl g rfl (by decide) (fun y w hy=>by subst hy;exact⟨rfl,fun u hu=>by rw[cx.1 hu];rfl⟩) (by unfold maxLen;show x.args.length+1≤_;omega) (by show(x.args.length+1)*16≤_;omega) HR.2.2 ?_;intro A5 c5;simp only[PS];iterate 2 refine OY (fun b wn Y hp=>by(obtain⟨q0,q1,q2⟩:=HV.out wn Y.1;skip;go_simp;with_reducible rfl)) ?_
 refine TE fun wt a6 hF=>?_;have J:=hF 23 (by simp) _ rfl;unfold FY at J;rw[ae (by decide),ae (by decide)] at J;have HT:=oH (show SY _ _ _ _ _ _ _ _ _ _ _ from a6);have HA:=oH J;clear a6 hF J;simp only[dK];have I:=o.1.kept HT.1 ⟨eo HR.1 o.1 (by decide),H2.out.ne⟩;have b5:=I.cl 5;have f5:=I.free 5;clear I;go_wp2_with fail
 go_end0
 obtain⟨y,wz,q1,rfl,q3,q4,q5⟩:=HA.out;have I:=o.1.kept HT.1 ⟨eo HR.1 o.1 (by decide),H2.out.ne⟩;have a7:=be o.2.1 HT.1 fun g hg=>⟨fun e=>o.2.2.1 g e hg,by rintro rfl;exact eo o.2.1 H2.out.par.box (by decide) hg⟩;have hX:=Uh.put_args (x:= {x with Nh:=x.Nh++[p.txt k]}) I q1 a7 (UL o.2.1 o.2.2.1 q3 q5) o.2.2.2;have a8:=Vy H2.out HR.1 HT.1 HT.2.2 hX;have b0:aa (fun b=>b≠xb) wt (wt.setCell ⟨xb,5,none⟩ (.slice A5 (x.args.length+1) c5)):=kR.setCell (.inl fun h=>h rfl) _;have n0:g0≠xb:=j.1.ne o.1 (by decide);have n1:g1≠xb:=j.2.1.ne o.1 (by decide);have b1:=(j.out.kept HT.1 ⟨eo HR.1 j.1 (by decide),j.2.2.1⟩ ⟨eo HR.1 j.2.1 (by decide),j.2.2.2⟩).kept b0 n0 n1;exact⟨rfl,a8,b1⟩
end Go.Proofs.YtgdlhckhpolnnaaGreatDoor
