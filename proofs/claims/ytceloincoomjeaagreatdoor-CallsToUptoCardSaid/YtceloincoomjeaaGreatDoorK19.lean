/- Part 20 of the proof of CallsTo (its last part says what is proved). No condition. -/
import Derived.Test.YtceloincoomjeaaGreatDoorK18
namespace Go.Proofs.YtceloincoomjeaaGreatDoor
set_option maxRecDepth 100000
set_option maxHeartbeats 8000000
open Go.RowKit Go.Proofs.Tryz
theorem uf {N:Nat}{p q:Nat→Bool}(h:∀k,k<N→p k=q k):az N p=az N q:=by unfold az;congr 1;refine List.map_congr_left fun k j=>?_;rw[h k (fg.1 j)]
theorem Ei (S:Nat→Prop)(v:Value)(ll:List (List Int))(w:World)(hv:Rows S w v ll)(hR:aP ll):
 Calls prog 52 #[v] w (uz (cV (iN ll) ll.length) w):=by
 have o:=gt S v ll w hv;rw[bL hR] at o;have I:=fun w1 (hk:aa All w w1)=>sd S v ll w1 (aq.keep hk.all hv) hR;have a7:=fun w1 (hk:aa All w w1)=>aq.keep hk.all hv;obtain⟨a,cap,rfl,h1,h2,c2,h⟩:=hv;have hl:ll.length≤256:=hR.2.1;have HR:=J4 o I a7 hR;clear h h1 h2 c2 o I a7 hR;have c5:=fun w=>iy ll.length (by omega) w;go_enter func52,ntmps52;go_wp2_with fail;refine HR.1.mono ?_;rintro e w1 ⟨rfl,b2⟩;have I:=HR.2.1 w1 b2;have HK:=J2 b2 I;clear b2 I;go_wp2_with fail;refine HK.2.mono ?_;rintro e w2 ⟨u,rfl,b7,hb⟩;have HB:=J2 (HK.1.trans b7) (jh hb);clear b7 hb;go_wp2_with fail;go_loopg [20] ll.length (fun g i wr=>∃i':Nat,i'≤ll.length∧g=ll.length-i'∧i=.int .i64 i'∧aa All w2 wr∧w2.heap.size<wr.heap.size∧al wr w2.heap.size 4 (az ll.length (lr ll i')));·exact⟨0,by omega,by omega,rfl,kR.alloc _,by simp,by rw[KV];exact al.new _ _ _⟩
 clear c5;obtain⟨i,hi,rfl,rfl,J,c6,l⟩:=hrel;by_cases b8:i<ll.length;·(
 obtain⟨row,b3⟩:=eG b8;obtain⟨b1,o1,c1,rfl,c7,e0,A3,c3,rfl,r1,r2,_,rh⟩:=bn (HR.2.2.1 wr (HB.1.trans J)) b3;have R:=J3 J l b3;clear J b3 c7 rh l r1 r2;by_cases hz:0<row.length
 ·go_wp2_with fail
  go_roundg (ll.length-(i+1));·exact⟨i+1,by omega,rfl,by go_num,R.1,c6,by rw[IG R.2.2 hz];exact R.2.1⟩
  omega
 obtain rfl:row=[]:=oD (by omega);have hw:=Es (wr.heap.size+5) u (gF ll) i wr (aq.wide (fun b hb=>⟨by have:=R.1.size;omega,by have:=R.1.size;omega⟩) (aq.keep R.1.all HB.2)) (xN HR.2.2.2) (by rw[fK];exact b8) (.inr rfl) trivial;have HW:=oH hw;clear hw;go_wp2_with fail;refine HW.out.mono ?_;rintro e w3 ⟨uu,s,rfl,b9,c0,_⟩;have a8:aa (fun b=>b<wr.heap.size) wr w3:=b9.mono fun b hb=>by omega
 have b6:aa All wr w3:=am a8;have Y:(en (gF ll) i).length=ll.length:=by simp[en,fK]
 have Z:=fun wn (hk:aa (fun b=>b≠w2.heap.size) w3 wn)=>cR.keep (hk.mono fun b (hb:wr.heap.size≤b)=>by show b≠_;omega) c0;obtain⟨b4,c4,rfl,l1,l2,l3,_⟩:=c0;rw[Y] at l1 l3 Z⊢;have HX:=J4 b6 (R.2.1.kept b6 trivial) Z Y;clear b9 a8 b6 Z Y;go_wp2_with fail;go_loopg [32] ll.length (fun g k wx=>∃k':Nat,k'≤ll.length∧g=ll.length-k'∧k=.int .i64 k'∧aa (fun b=>b≠w2.heap.size) w3 wx∧al wx w2.heap.size 4 (az ll.length (pz ll i k')));·exact⟨0,by omega,by omega,rfl,kR,by rw[KW];exact HX.2.1⟩
 obtain⟨k,hk,rfl,rfl,a1,l⟩:=hrel;by_cases b0:k<ll.length;·(
 obtain⟨b5,o5,v5,rfl,c8,c9,rfl⟩:=bn (HX.2.2.1 _ a1) (nU (by rw[fK];exact b0));have a6:=l.cell k;have d7:=l.free k;rw[bj b0,IJ] at a6;have C:∀b,(lr ll i k||ay (gF ll) i k)=b→(az ll.length (pz ll i k)).setIfInBounds k (.bool b)=az ll.length (pz ll i (k+1)):=fun b hb=>dg (by rw[CP];exact hb) (fun j _ hj=>IK hj);obtain⟨p,hp⟩:=eR (lr ll i k);obtain⟨q,hq⟩:=eR (ay (gF ll) i k);rw[hp] at C a6;rw[hq] at C c9;have HY:=J3 a1 l C;clear a1 l C hp hq c8;cases p with
 |true=>
  go_wp2_with fail;go_roundg (ll.length-(k+1));·exact⟨k+1,by omega,rfl,by go_num,HY.1.setCell (.inl fun h=>h rfl) _,by rw[←HY.2.2 true rfl];exact HY.2.1.set _ _⟩
  omega
 |false=>
  go_wp2_with fail;go_roundg (ll.length-(k+1));·exact⟨k+1,by omega,rfl,by go_num,HY.1.setCell (.inl fun h=>h rfl) _,by rw[←HY.2.2 q rfl];exact HY.2.1.set _ _⟩
  omega)
 obtain rfl:k=ll.length:=by omega
 have HY:=J2 a1 l;clear a1 l;go_wp2_with fail;go_roundg (ll.length-(i+1))
 ·have d8:aa All w2 _:=am ((R.1.trans HX.1).all.trans (HY.1.mono fun b (hb:b<w2.heap.size)=>by show b≠_;omega))
  refine⟨i+1,by omega,rfl,by go_num,d8,by have:=HX.1.size;have:=HY.1.size;omega,?_⟩;rw[←uf fun k hk=>FA HR.2.2.2 R.2.2 hk];exact HY.2
 omega)
 obtain rfl:i=ll.length:=by omega
 have HF:=oH (uZ _ _ _ wr (iT (S:=All) l trivial hl (fun k _=>rfl)));have R:=oH J;clear J l;go_wp2_with fail;refine HF.out.mono ?_;rintro e w3 ⟨rfl,hw⟩;have d9:=hw.symm;subst d9;rw[De];go_wp2_with fail;go_ret2;exact⟨rfl,HB.1.trans R.out⟩
theorem EW (S:Nat→Prop)(ll:List (List Int))(I:Value)(J R a i:Nat)(w:World)(l:al w J 61 #[I])(o:al w R 3 #[.int .i64 i])(Y:jE S w I (dB ll))(ha:a<ll.length)(hi:i<ll.length)(_:ll.length≤256):
 Calls prog 24 #[.int .i64 a,.pointer (some ⟨J,0,none⟩),.pointer (some ⟨R,0,none⟩)] w fun e w'=>e=.returned (.bool (ay ll a i))∧∃n,w'=w.drewN n:=by
 have Z:=l.cell 0;have C:=o.cell 0;have j:=Y;obtain⟨A,cap,rfl,_⟩:=Y;rw[gU] at j Z;obtain⟨b1,o1,b2,o2,c2,rfl,_,h1,a1,_,h2⟩:=io j ha hi;simp only[gc] at Z C;clear j l o;generalize ay ll a i=p at*;go_enter func24,ntmps24;go_wp2_with fail;go_quiet (fail);go_wp2;go_ret;exact⟨rfl,_,rfl⟩
noncomputable def vj (ll:List (List Int))(row:List Int)(i:Nat):Int:=if row.any (fun x=>ay ll x.toNat i) then(row.findIdx (fun x=>ay ll x.toNat i):Int) else-1
theorem Df (S T:Nat→Prop)(ll:List (List Int))(vb v:Value)(row:List Int)(xb xi i:Nat)(w:World)(Y:al w xb 61 #[vb])(Z:al w xi 3 #[.int .i64 i])(hv:jE S w vb (dB ll))(hr:aK T w v row)
 (J:∀x∈row,∃n:Nat,x=n∧n<ll.length) (a7:row.length≤256) (hi:i<ll.length) (hl:ll.length≤256):
 Calls prog 38 #[v,.func (.func 24) #[] #[.pointer (some ⟨xb,0,none⟩),.pointer (some ⟨xi,0,none⟩)]] w fun e w'=>e=.returned (.int .i64 (vj ll row i))∧∃n,w'=w.drewN n:=by
 have l:=fun a (ha:a<ll.length) n=>EW S ll vb xb xi a i (w.drewN n) Y Z hv ha hi hl;obtain⟨a,cap,rfl,h1,h2,_,h⟩:=hr;have H:=J3 h J l;clear h J l Y Z hv;go_enter func38,ntmps38;go_wp2;go_loopg [8] row.length (fun g x wr=>∃k n:Nat,k≤row.length∧g=row.length-k∧x=.int .i64 k∧wr=w.drewN n∧∀y∈row.take k,ay ll y.toNat i=false);·exact⟨0,0,by omega,by omega,rfl,rfl,by simp⟩
 obtain⟨k,n,hk,rfl,rfl,rfl,o⟩:=hrel;have HN:=oH o;clear o;by_cases C:k<row.length;·(
 obtain⟨b,off,c,rfl,hs,hc,rfl,hw⟩:=H.1 k row[k] (lG C);obtain⟨j,hj,a1⟩:=H.2.1 row[k] (eL C);have l:=H.2.2 j a1 n;have HJ:=oH hj;rw[hj] at hc;clear hj;cases I:ay ll j i with
 |true=>
  rw[I] at l;have HC:=J2 l I;clear l I;go_wp2_with (go_at_call 24;refine HC.1.mono ?_;rintro e w' ⟨rfl,n',rfl⟩);go_ret;refine⟨?_,_,rfl⟩;have I:ay ll (row[k]).toNat i=true:=by rw[HJ.out];exact HC.2
  have h1:row.any (fun x=>ay ll x.toNat i)=true:=mW.2 ⟨_,eL C,I⟩;have h2:row.findIdx (fun x=>ay ll x.toNat i)=k:=by rw[List.findIdx_eq C];refine⟨I,fun m hm=>?_⟩;exact HN.out _ (List.mem_take_iff_getElem.2 ⟨m,by omega,rfl⟩)
  unfold vj;rw[ap h1,h2];rfl
 |false=>
  rw[I] at l;have HC:=J2 l I;clear l I;go_wp2_with (go_at_call 24;refine HC.1.mono ?_;rintro e w' ⟨rfl,n',rfl⟩);go_roundg (row.length-(k+1))
  ·refine⟨k+1,n+n',by omega,rfl,by go_num,rfl,fun y R=>?_⟩;rw[cU,lG C,HJ.out] at R;rcases eD.1 R with R|R;·exact HN.out y R
   rw[show y=(j:Int) by simpa using R];exact HC.2
  omega)
 have a6:k=row.length:=by omega
 go_wp2;go_ret;refine⟨?_,_,rfl⟩;have o:=HN.out;rw[a6,dZ] at o;have h1:row.any (fun x=>ay ll x.toNat i)=false:=List.any_eq_false.2 fun x hx=>by rw[o x hx];simp
 unfold vj;rw[h1];rfl
theorem wS (ll:List (List Int))(row:List Int)(i:Nat):decide (0≤vj ll row i)=row.any (fun x=>ay ll x.toNat i):=by unfold vj;cases row.any (fun x=>ay ll x.toNat i)<;>simp
theorem Ji (S T:Nat→Prop)(ll:List (List Int))(J v:Value)(row:List Int)(R Y i:Nat)(w:World)(o:al w R 61 #[J])(C:al w Y 3 #[.int .i64 i])(Z:jE S w J (dB ll))(hr:aK T w v row)
 (l:∀x∈row,∃n:Nat,x=n∧n<ll.length) (I:row.length≤256) (hi:i<ll.length) (hl:ll.length≤256):
 Calls prog 23 #[v,.func (.func 24) #[] #[.pointer (some ⟨R,0,none⟩),.pointer (some ⟨Y,0,none⟩)]] w fun e w'=>e=.returned (.bool (row.any (fun x=>ay ll x.toNat i)))∧∃n,w'=w.drewN n:=by
 have j:=Df S T ll J v row R Y i w o C Z hr l I hi hl;have hn:=wS ll row i;have H:=oH j;have HN:=oH hn;obtain⟨a,cap,rfl,h1,h2,_,h⟩:=hr;clear h l j o C Z hn;generalize vj ll row i=y at*;go_enter func23,ntmps23;go_wp2_with (go_at_call 38;refine H.out.mono ?_;rintro e w' ⟨rfl,n',rfl⟩);go_ret;exact⟨by rw[←HN.out];rfl,_,rfl⟩
def aN (N:Nat)(f:Nat→Int):Array Value:=dM N fun i=>.int .i64 (f i)
theorem bI {N:Nat}{f:Nat→Int}{i:Nat}(h:i<N):(aN N f)[i]? =some (.int .i64 (f i)):=cq h
theorem kU (N:Nat)(f:Nat→Int):(aN N f).size=N:=ew _ _
theorem ex {N:Nat}{f g:Nat→Int}(h:∀i,i<N→f i=g i):aN N f=aN N g:=by
 apply Array.ext_getElem?;intro j;by_cases l:j<N;·rw[bI l,bI l,h j l]
 rw[jK (by rw[kU];omega),jK (by rw[kU];omega)]
theorem fZ {N:Nat}{f:Nat→Int}{i:Nat}{v:Int}:(aN N f).setIfInBounds i (.int .i64 v)=aN N (lu f i v):=by unfold aN;rw[jo];congr 1;funext k;unfold qd lu;split<;>rfl
theorem wX (n:Nat)(J:n≤1048576)(w:World):(Instr.makeSlice 50 (.int .i64 n) (.int .i64 n)).run prog w=.ok (.slice (some ⟨w.heap.size,0,none⟩) n n) (w.alloc (.cells (aN n fun _=>0) 3)):=by
 obtain⟨i3,hi,o,C,I⟩:=info_parts yw;rw[run_make (P:=prog) w 50 3 i3 (.int .i64 0) underlying50 hi o .i64 .i64 n n (by omega) (by omega) (by rw[I];omega) (by omega)];have e:madeCells (Value.int .i64 0).cells ((n:Int).toNat*i3.size)=aN n fun _=>0:=by(
 rw[C,dP,Nat.mul_one];apply Array.ext_getElem?;intro j;by_cases l:j<n;·rw[bI l];simp[madeCells,l,Value.cells,Nat.mod_one]
 rw[jK (by rw[size_madeCells];omega),jK (by rw[kU];omega)])
 rw[e,dP]
theorem sL {S:Nat→Prop}{w:World}{g n:Nat}{t:TypeId}{f:Nat→Int}(h:al w g t (aN n f))(C:S g)(I:n≤1048576)(hw:∀i,i<n→(Lit.int .i64 (f i)).wf=true):
 aK S w (.slice (some ⟨g,0,none⟩) n n) ((List.range n).map f):=by
 have o:((List.range n).map f).length=n:=by simp
 have:=Sl.of_blk (bw:=8) (E:=rQ) (S:=S) (l:=(List.range n).map f) (cap:=n) h C (by simp) (by unfold maxLen;omega) (by rw[o];omega) (fun i x j=>by
  have hi:i<n:=by(
 rcases Nat.lt_or_ge i n with h|h;·exact h
 rw[jz (by simp;omega)] at j;cases j)
  rw[cL,ln hi] at j;cases j;exact⟨_,bI hi,rfl,hw i hi⟩)
 rwa [o] at this
theorem GU {B:Nat}{w:World}{u:Value}{L:List (List Int)}(h:eN B w u L)(h1:1≤L.length)(h2:L.length≤256):
 Calls prog 25 #[u] w fun e w'=>e=.returned (.tuple #[])∧aa (fun b=>b<B) w w'∧Rows (fun b=>B≤b) w' u L.reverse:=by
 obtain⟨vs,j,J⟩:=h;obtain⟨a6,j⟩:=j;rcases j with ⟨_,hn⟩|⟨g,cap,cur,rfl,C,hh,I,hm,a7,R⟩;·omega
 have o:∀m,m<L.length→cur[m]? =vs[m]?:=fun m hm=>by rw[←R,rY (by omega),Array.getElem?_toList]
 have a1:L.length≤cur.size:=by have:=congrArg List.length R;rw[fN,Array.length_toList] at this;omega
 refine(ze g L.length cap 50 cur w hh a1 h1 h2 I fun m hm=>?_).mono ?_
 ·obtain⟨c,I,a,cp,rfl,_⟩:=J m _ (lG hm)
  exact⟨_,_,_,by rw[o m hm,I]⟩
 rintro e w' ⟨rfl,hk,a8,Y,Z⟩;refine⟨rfl,hk.mono fun b C=>by omega,?_⟩;have hl:L.reverse.length=L.length:=List.length_reverse;have:=Sl.of_blk (bw:=24) (E:=aK) (S:=fun b=>B≤b) (l:=L.reverse) (cap:=cap) Y C (by rw[hl];exact I) hm (by rw[hl];omega) (fun i x hx=>by
  have hi:i<L.length:=by(
 rcases Nat.lt_or_ge i L.length with h|h;·exact h
 rw[jz (by rw[hl];omega)] at hx;cases hx)
  rw[List.getElem?_reverse hi] at hx;obtain⟨c,I,hE⟩:=J _ x hx;refine⟨c,by rw[Z i hi,o _ (by omega)];exact I,?_⟩;exact ah.wide (fun b C=>C.1) (ah.keep (hk.mono fun b C=>fun e=>C.2.2 (by rw[e];rfl)) hE))
 rwa [hl] at this
noncomputable def nu (ll:List (List Int))(s i k j:Nat):Int:=if j<i then kL ll s j else if j=i then(if pq ll s i k then-1 else 0) else 0
theorem Lv (ll:List (List Int))(s j:Nat):nu ll s 0 0 j=0:=by unfold nu pq;simp
theorem DD (ll:List (List Int))(s i:Nat):nu ll s i ll.length=nu ll s (i+1) 0:=by
 funext j;unfold nu;by_cases l:j<i;·rw[ap l,ap (by omega)]
 rw[ae l];by_cases o:j=i;·subst o;rw[ap rfl,ap (Nat.lt_succ_self j)];rfl
 rw[ae o,ae (by omega)];simp[pq]
theorem JC {ll:List (List Int)}{s i k:Nat}(h:(kS ll s k&&ay ll k i)=false):nu ll s i (k+1)=nu ll s i k:=by funext j;unfold nu;rw[qo,h,Bool.or_false]
theorem Gz {ll:List (List Int)}{s i k:Nat}(h:(kS ll s k&&ay ll k i)=true):lu (nu ll s i k) i (-1)=nu ll s i (k+1):=by
 funext j;unfold lu nu;rw[qo,h,Bool.or_true];by_cases l:j=i;·subst l;simp
 simp[l]
theorem Gy {ll:List (List Int)}{s j:Nat}(h:j<ll.length):nu ll s ll.length 0 j=kL ll s j:=by unfold nu;rw[ap h]
theorem oS {n k:Nat}{t u:Nat→Int}{x:Int}(l:u k=x)(o:∀j,j<n→j≠k→u j=t j):(aN n t).setIfInBounds k (.int .i64 x)=aN n u:=by
 rw[fZ];refine ex fun j C=>?_;unfold lu;by_cases e:j=k;·subst e;rw[ap rfl,l]
 rw[ae e,o j C e]
structure qQ (n:Nat)(pl:Nat→Nat)(t:Nat→Int)(pb tb g h:Nat)(w:World):Prop where
 pp:al w pb 50 #[.slice (some ⟨g,0,none⟩) n n]
 tp:al w tb 50 #[.slice (some ⟨h,0,none⟩) n n]
 pn:al w g 3 (aN n fun k=>pl k)
 tn:al w h 3 (aN n t)
theorem qQ.keep {n j l g h:Nat}{pl:Nat→Nat}{t:Nat→Int}{S:Nat→Prop}{w o:World}(k:aa S w o)(C:S j)(I:S l)(J:S g)(R:S h)(T:qQ n pl t j l g h w):qQ n pl t j l g h o:=
 ⟨T.pp.kept k C,T.tp.kept k I,T.pn.kept k J,T.tn.kept k R⟩
theorem Gf (n:Nat)(pl:Nat→Nat)(t:Nat→Int)(pb tb g h a b:Nat)(w:World)(_:n≤256)(G:fU n pl t)(h0:pl 0=0)(inj:∀a b,a<n→b<n→pl a=pl b→a=b)(lt:∀a,a<n→pl a<n)
 (ha:a<n) (hb:b<n) (pa:my t a) (C:my t b) (T:qQ n pl t pb tb g h w):
 Calls prog 84 #[.int .i64 a,.int .i64 b,.pointer (some ⟨pb,0,none⟩),.pointer (some ⟨tb,0,none⟩)] w fun e w'=>∃m:Nat,e=.returned (.int .i64 m)∧m<n∧(∀x,ig t m x↔ig t a x∧ig t b x)∧aa All w w':=by
 have hT:=fun wn (hk:aa All w wn)=>T.keep hk trivial trivial trivial trivial;have HG:=J4 G h0 inj lt;have HA:=J3 pa C hT;clear G h0 inj lt pa C T hT;go_enter func84,ntmps84;go_wp2;go_loopg [0,1] (pl a+pl b) (fun gg x y wr=>∃j l:Nat,gg=pl j+pl l∧x=.int .i64 j∧y=.int .i64 l∧j<n∧l<n∧my t j∧my t l∧(∀x,(ig t j x∧ig t l x)↔(ig t a x∧ig t b x))∧aa All w wr);·exact⟨a,b,rfl,rfl,rfl,ha,hb,HA.1,HA.2.1,fun x=>Iff.rfl,kR⟩
 obtain⟨j,l,rfl,rfl,rfl,I,R,pa,C,hx,J⟩:=hrel;have T:=HA.2.2 wr J;have c0:=T.pp.cell 0;have c1:=T.tp.cell 0;have c2:=T.pn.cell j;have c3:=T.pn.cell l;have c4:=T.tn.cell j;have c5:=T.tn.cell l;rw[bI I] at c2 c4;rw[bI R] at c3 c5;simp only[gc] at c0 c1;have la:=HG.2.2.2 j I;have lb:=HG.2.2.2 l R;clear T;by_cases he:j=l
 ·have Y:=J2 J hx;clear J hx;have te:((j:Int) !=l)=false:=by rw[gj];omega
  have HE:=oH he;clear he;go_wp2_with fail;go_ret;have he:=HE.out;subst he;exact⟨j,rfl,I,fun x=>⟨fun h=>(Y.2 x).1 ⟨h,h⟩,fun h=>((Y.2 x).2 h).1⟩,Y.1⟩
 have te:((j:Int) !=l)=true:=by rw[bne_iff_ne];omega
 have a7:pl j≠pl l:=fun e=>he (HG.2.2.1 j l I R e);clear he;by_cases a8:pl l<pl j
 ·obtain⟨p,hp,a6,Z,b0,o⟩:=vz HG.1 I R pa a8 HG.2.1;rw[hp] at c4;have Y:=J4 J (fun x=>(o x).symm.trans (hx x)) Z C;clear J hx o Z C pa hp;go_wp2_with fail;go_quiet (fail);go_wp2_with fail;go_roundg (pl p+pl l);·exact⟨p,l,rfl,rfl,rfl,a6,R,Y.2.2.1,Y.2.2.2,Y.2.1,Y.1.drewN _⟩
  omega
 have a1:pl j<pl l:=by omega
 obtain⟨p,hp,a6,Z,b0,o⟩:=vz HG.1 R I C a1 HG.2.1;rw[hp] at c5;have Y:=J4 J (fun x=>(and_comm.trans ((o x).symm.trans and_comm)).trans (hx x)) Z pa;clear J hx o Z C pa hp a7 a1;go_wp2_with fail;go_quiet (fail);go_wp2_with fail;go_roundg (pl j+pl p);·exact⟨j,p,rfl,rfl,rfl,I,a6,Y.2.2.2,Y.2.2.1,Y.2.1,Y.1.drewN _⟩
 omega
section
theorem tX {P:Program}{a:Act}{w:World}{Q:Exit→Act→World→Prop}{c rest:Code}(l:Nat)(J:Nat→Act→World→Prop)(Y:findLabel c l=some (Code.skip.seq rest))
 (pass:∀m a w,J m a w→rest.wp P (Exit.jump l (fun o C=>∃j,j<m∧J j o C) Q) a w)
 (first:(∀m a w,J m a w→rest.wp P (Exit.jump l (fun o C=>∃j,J j o C) Q) a w)→c.wp P (Exit.jump l (fun o C=>∃j,J j o C) Q) a w):(Code.scope c).wp P Q a w:=by
 refine wp_scope_jumps l (fun o C=>∃j,J j o C) (fun o C=>Go.leastOf fun m=>J m o C) Y (first fun m a w I=>wp_mono (pass m a w I) ?_) ?_;·(
 intro e o C h;cases e with
 |goto Z=>exact⟨h.1,let⟨j,_,hm⟩:=h.2;⟨j,hm⟩⟩
 |normal=>exact h
 |exit id=>exact h
 |ret=>exact h
 |panic ch=>exact h
 |outgrown=>exact h)
 rintro a w I;obtain⟨h1,h2⟩:=Go.leastOf_spec (p:=fun m=>J m a w) I;refine wp_seq (wp_skip (wp_mono (pass _ a w h1) ?_));intro e o C h;cases e with
 |goto Z=>obtain⟨h3,j,hm,R⟩:=h;refine⟨h3,⟨j,R⟩,?_⟩;have:=(Go.leastOf_spec (p:=fun m=>J m o C) ⟨j,R⟩).2 j R;show Go.leastOf _<Go.leastOf _;omega
 |normal=>exact h
 |exit id=>exact h
 |ret=>exact h
 |panic ch=>exact h
 |outgrown=>exact h
theorem Is (T:Array Value)(n:Nat)(h:T.size=n):T=((List.range n).map fun i=>T.getD i undef).toArray:=by
 apply Array.ext_getElem?;intro i;by_cases hi:i<n;·simp[hi,h]
 rw[jK (by omega),jK (by simp;omega)]
def kD (ord:List Nat)(i k:Nat):Int:=if ord.idxOf k<i then ord.idxOf k else 0
theorem Gx {ll:List (List Int)}{ord:List Nat}(O:Cw ll ord){j:Nat}(o:j<ll.length):ord[ord.idxOf j]? =some j:=by
 have C:=O.op.lt j o;have l:ord.idxOf j<ord.length:=by rw[O.len];exact C
 rw[lG l,List.getElem_idxOf]
theorem DG {ll:List (List Int)}{ord:List Nat}(O:Cw ll ord){i k:Nat}(h:ord[i]? =some k):kD ord (i+1) k=i:=by unfold kD;rw[O.at' i k h,ap (by omega)]
theorem DH {ll:List (List Int)}{ord:List Nat}(O:Cw ll ord){i k j:Nat}(h:ord[i]? =some k)(C:j<ll.length)(l:j≠k):kD ord (i+1) j=kD ord i j:=by
 have:ord.idxOf j≠i:=fun e=>by have:=Gx O C;rw[e,h] at this;exact l (kJ this).symm
 unfold kD;by_cases o:ord.idxOf j<i;·rw[ap (by omega),ap o]
 rw[ae (by omega),ae o]
theorem AL {ll:List (List Int)}{ord:List Nat}(O:Cw ll ord){k:Nat}(j:k<ll.length):kD ord ll.length k=ord.idxOf k:=by unfold kD;rw[ap (O.op.lt k j)]
theorem BW {n:Nat}{pl:Nat→Nat}{t:Nat→Int}(G:fU n pl t)(o:n≤256){j:Nat}(l:j<n):(Lit.int .i64 (t j)).wf=true:=by
 by_cases h:0≤t j
 ·obtain⟨p,e,C,_⟩:=G.low j l h
  rw[e];exact tT (by omega)
 have:=G.neg j l;rw[show t j= -1 by omega];decide
open Classical in
noncomputable def vM (ll:List (List Int))(k:Nat):List Nat:=(List.range ll.length).filter fun a=>decide (dH ll a k)
theorem GL (ll:List (List Int))(k:Nat):di ll ll.length k=(vM ll k).map fun(n:Nat)=>(n:Int):=rfl
open Classical in
theorem DJ {ll:List (List Int)}{k p:Nat}:p∈vM ll k↔dH ll p k:=by unfold vM;rw[List.mem_filter,fg,iH];exact⟨fun h=>h.2,fun h=>⟨lq h,h⟩⟩
open Classical in
theorem DI (ll:List (List Int))(k:Nat):(vM ll k).length≤ll.length:=by unfold vM;have:=List.length_filter_le (fun a=>decide (dH ll a k)) (List.range ll.length);rwa [List.length_range] at this
def Ke (ll:List (List Int))(V0:Value)(w0:World)(m:Nat)(a:Act)(w:World):Prop:=
 ∃(ord:List Nat) (pl:Nat→Nat) (t:Nat→Int) (pb tb g h:Nat) (V5 V6:Value),m=xd pl ll.length t ll.length∧zJ (dH ll) ll.length pl∧(ord.length=ll.length∧∀(m:Nat) x,ord[m]? =some x→pl x=m∧x<ll.length)∧rR (dH ll) ll.length pl t∧
  (a.defers=[]∧a.tmps.size=110∧a.tmps.getD 0 undef=V0∧a.tmps.getD 5 undef=V5∧a.tmps.getD 6 undef=V6∧a.tmps.getD 7 undef=.pointer (some ⟨pb,0,none⟩)∧a.tmps.getD 10 undef=.pointer (some ⟨tb,0,none⟩)∧a.tmps.getD 12 undef=.func (.func 84) #[] #[.pointer (some ⟨pb,0,none⟩),.pointer (some ⟨tb,0,none⟩)])∧
  aa All w0 w∧aK (fun b=>b≠h) w V5 (ord.map fun(n:Nat)=>(n:Int))∧Rows (fun b=>b≠h) w V6 (gF ll)∧qQ ll.length pl t pb tb g h w∧w0.heap.size≤h∧pb≠h∧tb≠h∧g≠h
theorem En {ll:List (List Int)}{R:Value}{I:World}{m:Nat}{a:Act}{w:World}(h:Ke ll R I m a w):
 ∃(f:Nat→Value) (ord:List Nat) (pl:Nat→Nat) (t:Nat→Int) (j l g h:Nat) (o C:Value),m=xd pl ll.length t ll.length∧zJ (dH ll) ll.length pl∧(ord.length=ll.length∧∀(m:Nat) x,ord[m]? =some x→pl x=m∧x<ll.length)∧rR (dH ll) ll.length pl t∧
 a= {tmps:=#[R,f 1,f 2,f 3,f 4,o,C,.pointer (some ⟨j,0,none⟩),f 8,f 9,.pointer (some ⟨l,0,none⟩),f 11,.func (.func 84) #[] #[.pointer (some ⟨j,0,none⟩),.pointer (some ⟨l,0,none⟩)],f 13,f 14,f 15,f 16,f 17,f 18,f 19,f 20,f 21,f 22,f 23,f 24,f 25,f 26,f 27,f 28,f 29,f 30,f 31,f 32,f 33,f 34,f 35,f 36,f 37,f 38,f 39,f 40,f 41,f 42,f 43,f 44,f 45,f 46,f 47,f 48,f 49,f 50,f 51,f 52,f 53,f 54,f 55,f 56,f 57,f 58,f 59,f 60,f 61,f 62,f 63,f 64,f 65,f 66,f 67,f 68,f 69,f 70,f 71,f 72,f 73,f 74,f 75,f 76,f 77,f 78,f 79,f 80,f 81,f 82,f 83,f 84,f 85,f 86,f 87,f 88,f 89,f 90,f 91,f 92,f 93,f 94,f 95,f 96,f 97,f 98,f 99,f 100,f 101,f 102,f 103,f 104,f 105,f 106,f 107,f 108,f 109],defers:=[]}∧
 aa All I w∧aK (fun b=>b≠h) w o (ord.map fun(n:Nat)=>(n:Int))∧Rows (fun b=>b≠h) w C (gF ll)∧qQ ll.length pl t j l g h w∧I.heap.size≤h∧j≠h∧l≠h∧g≠h:=by
 obtain⟨ord,pl,t,j,l,g,h,o,C,Z,h2,J,h3,⟨d1,d2,d30,d35,d36,d37,d310,d312⟩,h4⟩:=h;obtain⟨T,D⟩:=a;simp only at d1 d2 d30 d35 d36 d37 d310 d312;have Y:=Is T 110 d2;generalize hf:(fun i=>T.getD i undef)=f at Y;have hg:∀i,T.getD i undef=f i:=fun i=>by rw[←hf]
 rw[hg] at d30 d35 d36 d37 d310 d312;refine⟨f,ord,pl,t,j,l,g,h,o,C,Z,h2,J,h3,?_,h4⟩;rw[d1,Y,←d312,←d310,←d37,←d36,←d35,←d30];rfl
theorem Hu (S:Nat→Prop)(v:Value)(ll:List (List Int))(w:World)(hv:Rows S w v ll)(hR:aP ll)(hL:∀k,k<ll.length→aQ ll 0 k):
 Calls prog 53 #[v] w fun e w'=>∃u t pl,e=.returned u∧aa All w w'∧aK (fun b=>w.heap.size≤b) w' u (lV ll.length t)∧mz ll t pl:=by
 have a8:=fun w1 (J:aa All w w1)=>gt S v ll w1 (aq.keep J.all hv);rw[bL hR] at a8;have c8:∀w1,aa All w w1→Calls prog 51 #[v] w1 fun e w'=>e=.returned (.tuple #[.int .i64 0,.bool false])∧aa All w1 w':=fun w1 J=>by refine(yC S v ll w1 (aq.keep J.all hv) hR).mono ?_;rw[hZ fun k J h=>h.2 (hL k J)];exact fun e w' h=>h
 have h3:=fun w1 (J:aa All w w1)=>Aj S v ll w1 (aq.keep J.all hv) hR hL;have c9:=fun w1 (J:aa All w w1)=>sd S v ll w1 (aq.keep J.all hv) hR;obtain⟨a,cap,rfl,h1,h2,j8,h⟩:=hv;have hl:ll.length≤256:=hR.2.1;have k5:1≤ll.length:=hR.1;have HR:=J5 c8 a8 h3 c9 hR;clear h h1 h2 j8 a8 c8 h3 c9 hR hL;have j9:=fun w=>wX ll.length (by omega) w;go_enter func53,ntmps53;go_wp2;refine tX 0 (Ke ll (.slice a ll.length cap) w) rfl ?pass ?first
 case first=>(
 intro Z;have Z:=oH Z;go_wp2_with fail;refine(HR.1 _ kR).mono ?_;rintro e w1 ⟨rfl,i1⟩;have i2:=oH i1;clear i1;go_wp2_with fail;refine(HR.2.1 _ i2.out).mono ?_;rintro e w2 ⟨rfl,i4⟩;have i5:=oH (i2.out.trans i4);clear i4;go_wp2_with fail;refine(HR.2.2.1 _ i5.out).mono ?_;rintro e w3 ⟨u,ord,rfl,i6,h7,hO⟩;have HO:=J3 (i5.out.trans i6) (kV h7) hO;have d7:(ord.map Int.ofNat).length=ll.length:=by rw[ce,hO.len]
 have c3:=ah.la h7;obtain⟨oa,oc,rfl,o1,o2,o3,_⟩:=h7;rw[d7] at o1 o3 c3 HO⊢;have HV:=oH c3;clear i6 hO c3;go_wp2_with fail;refine(HR.2.2.2.1 _ HO.1).mono ?_;rintro e w4 ⟨ub,rfl,h8,i7⟩;have HB:=J3 (HO.1.trans h8) h8 (jh i7);clear h8 i7;go_wp2_with fail;go_loopg [39] ll.length (fun gg x wr=>∃i:Nat,i≤ll.length∧gg=ll.length-i∧x=.int .i64 i∧aa All w4 wr∧w4.heap.size+1<wr.heap.size∧al wr w4.heap.size 3 (aN ll.length (kD ord i))∧al wr (w4.heap.size+1) 50 #[.slice (some ⟨w4.heap.size,0,none⟩) ll.length ll.length]);·exact⟨0,by omega,by omega,rfl,(kR.alloc _).alloc _,by simp,(al.new _ _ _).alloc _,ac (by simp)⟩
 obtain⟨i,hi,rfl,rfl,I,k1,o,a6⟩:=hrel;have c1:=a6.cell 0;simp only[gc] at c1;by_cases d8:i<ll.length
 ·obtain⟨k,J⟩:∃k,ord[i]? =some k:=⟨_,lG (by rw[HO.2.2.len];exact d8)⟩;obtain⟨b5,o5,v5,rfl,_,h9,rfl,_⟩:=bn (i:=i) (x:=(k:Int)) (HV.out wr (HB.2.1.trans I)) (by rw[cL,J];rfl);have b0:=HO.2.2.lt k (mG J);have c2:=o.cell k;have f2:=o.free k;rw[bI b0] at c2;have R:(aN ll.length (kD ord i)).setIfInBounds k (.int .i64 i)=aN ll.length (kD ord (i+1)):=oS (DG HO.2.2 J) fun j hj b4=>DH HO.2.2 J hj b4;have HX:=J4 I o a6 R;clear I o a6 R J;go_wp2_with fail;go_roundg (ll.length-(i+1));·exact⟨i+1,by omega,rfl,by go_num,HX.1.setCell (.inr (cf _)) _,by simpa using k1,by rw[←HX.2.2.2];exact HX.2.1.set _ _,HX.2.2.1.far (by simp) _⟩
  omega
 obtain rfl:i=ll.length:=by omega
 have HX:=J3 I o a6;clear I o a6;obtain⟨w5,rfl⟩:=eQ wr;go_wp2_with fail;go_loopg [54] ll.length (fun gg x wr=>∃i:Nat,i≤ll.length∧gg=ll.length-i∧x=.int .i64 i∧aa All w5 wr∧w5.heap.size+1<wr.heap.size∧al wr w5.heap.size 3 (aN ll.length (fun k=>if k<i then-1 else 0))∧al wr (w5.heap.size+1) 50 #[.slice (some ⟨w5.heap.size,0,none⟩) ll.length ll.length]);·exact⟨0,by omega,by omega,rfl,(kR.alloc _).alloc _,by simp,(al.new _ _ _).alloc _,ac (by simp)⟩
 obtain⟨i,hi,rfl,rfl,I,j0,o,a6⟩:=hrel;have c1:=a6.cell 0;simp only[gc] at c1;by_cases d8:i<ll.length
 ·have c2:=o.cell i;have f2:=o.free i;rw[bI d8] at c2;have R:(aN ll.length (fun k=>if k<i then-1 else 0)).setIfInBounds i (.int .i64 (-1))=aN ll.length (fun k=>if k<i+1 then-1 else 0):=oS (ap (by omega)) fun j hj b4=>by
   by_cases h:j<i;·rw[ap h,ap (by omega)]
   rw[ae h,ae (by omega)]
  have HY:=J4 I o a6 R;clear I o a6 R;go_wp2_with fail;go_roundg (ll.length-(i+1));·exact⟨i+1,by omega,rfl,by go_num,HY.1.setCell (.inr (cf _)) _,by simpa using j0,by rw[←HY.2.2.2];exact HY.2.1.set _ _,HY.2.2.1.far (by simp) _⟩
  omega
 obtain rfl:i=ll.length:=by omega
 have HY:=J3 I o a6;clear I o a6;go_wp2_with fail
 go_step3
 rename_i hK;refine hK _ _ (Z.out (xd (fun x=>ord.idxOf x) ll.length (fun _=> -1) ll.length) _ _ ?_);have O:=HO.2.2;have e1:aN ll.length (kD ord ll.length)=aN ll.length (fun x=>(ord.idxOf x:Int)):=ex fun k J=>AL O J;have e2:aN ll.length (fun k=>if k<ll.length then-1 else 0)=aN ll.length (fun _=>(-1:Int)):=ex fun k J=>ap J;have b1:=HX.2.1;have b3:=HY.2.1;rw[e1] at b1;rw[e2] at b3;have s4:=HX.1.size;have s3:=HB.2.1.size;have s0:=HO.1.size
 refine⟨ord,fun x=>ord.idxOf x,fun _=> -1,w4.heap.size+1,w5.heap.size+1,w4.heap.size,w5.heap.size,_,_,rfl,O.op,⟨O.len,fun m x hx=>⟨O.at' m x hx,O.lt x (mG hx)⟩⟩,Jr O.op fun _ _=>rfl,⟨rfl,rfl,rfl,rfl,rfl,rfl,rfl,rfl⟩,
  (HB.1.trans HX.1).trans HY.1,?_,?_,⟨HX.2.2.kept HY.1 trivial,HY.2.2,b1.kept HY.1 trivial,b3⟩,by omega,by omega,by omega,by omega⟩
 ·exact ah.wide (fun b hb=>by have:b<w3.heap.size:=hb;omega) (ah.keep ((HB.2.1.trans HX.1).trans HY.1).all HO.2.1)
 exact aq.wide (fun b hb=>by have:b<w4.heap.size:=hb;omega) (aq.keep (HX.1.trans HY.1).all HB.2.2))
 clear j9;intro m aj wj hJ;obtain⟨f,ord,pl,t,pb,tb,pn,tn,V5,V6,rfl,O,⟨d7,OA⟩,K,rfl,d9,c3,j1,hT,hh,n1,n2,n3⟩:=En hJ;clear hJ;have b9:=fun wn (J:aa (fun b=>b≠tn) wj wn)=>ah.keep J c3;have e0:=fun wn (J:aa (fun b=>b≠tn) wj wn)=>aq.keep J j1;have h4:(ord.map fun(n:Nat)=>(n:Int)).length=ll.length:=by rw[ce,d7]
 obtain⟨k0,h5⟩:∃k0,ord[0]? =some k0:=⟨_,lG (by omega)⟩;obtain⟨oa,oc,rfl,o1,o2,o3,_⟩:=c3;rw[h4] at o1 o3 b9⊢;obtain⟨ob,oo,vv,rfl,_⟩:=bn (i:=0) (x:=(k0:Int)) (b9 wj kR) (by rw[cL,h5];rfl);obtain⟨ba,bc,rfl,p1,p2,p3,_⟩:=j1;rw[fK] at p1 p3 e0⊢;unfold maxLen at o2 p2;have l:=J8 O OA K d9 b9 e0 hT d7;clear O OA K d9 b9 e0 h4 hT d7 h5;go_wp2_with fail;·(
 subst h;have k6:ll.length≤1:=o1;go_loopg [13,65] (ll.length-1) (fun gg ch x wr=>∃(m:Nat) (b:Bool) (u:Nat→Int),m≤ll.length-1∧gg=ll.length-1-m∧x=.int .i64 m∧ch=.bool b∧gQ (dH ll) ll.length pl t u (m+1)∧fU ll.length pl u∧(b=false→u=t)∧(b=true→∃j,j<ll.length∧u j≠t j)∧aa (fun b=>b≠tn) wj wr∧qQ ll.length pl u pb tb pn tn wr)
 case atStart=>refine⟨0,false,t,by omega,by omega,rfl,rfl,GA t 1 fun k J h0=>?_,l.2.2.1.1.good,fun _=>rfl,(fun h=>by cases h),kR,l.2.2.2.2.2.2.1⟩;have e1:pl k≠pl 0:=fun e=>h0 (l.1.inj _ _ J l.1.pos e);have e2:=l.1.zero;omega
 obtain⟨m,b,u,hm,rfl,rfl,rfl,hP,hG,b7,o,I,hT⟩:=hrel;by_cases d8:m<ll.length-1;·exfalso;omega
 obtain rfl:m=ll.length-1:=by omega
 rw[show ll.length-1+1=ll.length by omega] at hP;have i0:=hT.tp.cell 0;simp only[gc] at i0;have C:=J6 hP hG b7 o I hT;clear hP hG b7 o I hT;cases b with
 |true=>
  go_wp2_with fail
  go_step3
  refine⟨rfl,_,((GH l.1 l.2.2.1 C.2.1 C.1 _ (cf _)).2 (C.2.2.2.1 (by simp))),ord,pl,u,pb,tb,pn,tn,_,_,rfl,l.1,⟨l.2.2.2.2.2.2.2,l.2.1⟩,sN l.1 l.2.2.1 C.2.1 C.1,⟨rfl,rfl,rfl,rfl,rfl,rfl,rfl,rfl⟩,
   am (l.2.2.2.1.all.trans (C.2.2.2.2.1.mono fun b (hb:b<w.heap.size)=>by show b≠tn;omega)),l.2.2.2.2.1 _ C.2.2.2.2.1,l.2.2.2.2.2.1 _ C.2.2.2.2.1,C.2.2.2.2.2,hh,n1,n2,n3⟩
 |false=>go_wp2_with fail;simp only[Exit.jump];go_ret;obtain rfl:u=t:=C.2.2.1 (by simp);have G:=C.2.1;have O:=l.1;refine⟨_,u,pl,rfl,am (l.2.2.2.1.all.trans (C.2.2.2.2.1.mono fun b (hb:b<w.heap.size)=>by show b≠tn;omega)),sL C.2.2.2.2.2.tn (by omega) (by omega) (fun i hi=>BW G hl hi),⟨O,G,fun j hj=>js C.1 j hj (O.lt j hj),fun j hj x=>BK O l.2.2.1 C.1 hj⟩⟩)
 skip;go_loopg [13,65] (ll.length-1) (fun gg ch x wr=>∃(m:Nat) (b:Bool) (u:Nat→Int),m≤ll.length-1∧gg=ll.length-1-m∧x=.int .i64 m∧ch=.bool b∧gQ (dH ll) ll.length pl t u (m+1)∧fU ll.length pl u∧(b=false→u=t)∧(b=true→∃j,j<ll.length∧u j≠t j)∧aa (fun b=>b≠tn) wj wr∧qQ ll.length pl u pb tb pn tn wr)
 case atStart=>refine⟨0,false,t,by omega,by omega,rfl,rfl,GA t 1 fun k J h0=>?_,l.2.2.1.1.good,fun _=>rfl,(fun h=>by cases h),kR,l.2.2.2.2.2.2.1⟩;have e1:pl k≠pl 0:=fun e=>h0 (l.1.inj _ _ J l.1.pos e);have e2:=l.1.zero;omega
 obtain⟨m,b,u,hm,rfl,rfl,rfl,hP,hG,b7,o,I,hT⟩:=hrel;by_cases d8:m<ll.length-1;·(
 obtain⟨k,J⟩:∃k,ord[m+1]? =some k:=⟨_,lG (by rw[l.2.2.2.2.2.2.2];omega)⟩;obtain⟨c4,b0⟩:=l.2.1 _ k J;have d9:k≠0:=fun e=>by subst e;have:=l.1.zero;omega
 obtain⟨b5,o5,v5,k2,_,h9,rfl,_⟩:=bn (i:=m+1) (x:=(k:Int)) (l.2.2.2.2.1 wr I) (by rw[cL,J];rfl);cases k2;rw[show oo+(m+1)=oo+1+m by omega] at h9;obtain⟨q,hq⟩:=eR (vM ll k);have j2:∀p,p∈q↔dH ll p k:=fun p=>by rw[←hq];exact DJ
 have k7:q.length≤256:=by rw[←hq];exact fR (DI ll k) hl
 obtain⟨rb,ro,rv,rfl,_,j3,j4⟩:=bn (x:=q.map fun(n:Nat)=>(n:Int)) (l.2.2.2.2.2.1 wr I) (by rw[mX b0,GL,hq]);have e3:=ah.la j4;obtain⟨qa,qc,rfl,q1,q2,q3,_⟩:=j4;rw[ce] at q1 q3 e3 j3;have j5:=fun wn (J:aa All wr wn)=>hT.keep J trivial trivial trivial trivial;have HN:=J10 hP hG b7 o I j5 j2 e3 c4 d9;clear hP hG b7 o I hT j5 j2 e3 J hq c4 d9;obtain⟨wo,rfl⟩:=eQ wr;go_wp2_with fail;go_loopg [16,74] q.length (fun gg nr x wr=>∃(j:Nat) (v:Int),j≤q.length∧gg=q.length-j∧x=.int .i64 j∧nr=.int .i64 v∧lA u (q.take j) v∧aa All wo wr);·exact⟨0,-1,by omega,by omega,rfl,rfl,by rw[List.take_zero];exact Dv u,kR⟩
 clear h9 j3;obtain⟨j,v,hj,rfl,rfl,rfl,hN,a7⟩:=hrel;have T:=HN.2.2.2.2.2.1 _ a7;have c0:=T.tp.cell 0;simp only[gc] at c0;by_cases j6:j<q.length;·(
 obtain⟨p,hp⟩:=eG j6;have e4:q.take (j+1)=q.take j++[p]:=by rw[cU,hp];rfl
 obtain⟨b6,o6,v6,rfl,_,k8,rfl,_⟩:=bn (i:=j) (x:=(p:Int)) (HN.2.2.2.2.2.2.2.1 _ a7) (by rw[cL,hp];rfl);have j7:=lq ((HN.2.2.2.2.2.2.1 p).1 (mG hp));have e5:=fun c (hN:lA u (q.take j) (c:Nat))=>AF HN.2.1 (fun p hp=>lq ((HN.2.2.2.2.2.2.1 p).1 (List.mem_of_mem_take hp))) hN;have c1:=T.tn.cell p;rw[bI j7] at c1;clear hp;by_cases Y:my u p;·(
 have hw:=fun(y:Int) (hy:u p=y) (c:Nat) (hN:lA u (q.take j) c)=>Gf ll.length pl u pb tb pn tn c p wr hl HN.2.1 l.1.zero l.1.inj l.1.lt (e5 c hN).1 j7 (e5 c hN).2 Y T;have b2:p=0∨0≤u p:=Y;obtain⟨y,hy⟩:=eR (u p);rw[hy] at c1 b2;have Z:=J5 a7 e4 hN Y (hw y hy);rcases Du hN with rfl|⟨c,rfl⟩;·(
 clear a7 e4 hN Y hw e5 T hy;by_cases a1:p=0
 ·have t0:((p:Int) !=0)=false:=by rw[gj];omega
  clear a1 b2;go_wp2_with fail;go_roundg (q.length-(j+1));·exact⟨j+1,p,by omega,rfl,by go_num,rfl,by rw[Z.2.1];exact rd Z.2.2.1 (by decide) Z.2.2.2.1,Z.1⟩
  omega
 have t0:((p:Int) !=0)=true:=by rw[bne_iff_ne];omega
 have c5:¬y<0:=by omega
 have ty:decide (y<0)=false:=by simpa using c5
 clear a1 b2;go_wp2_with fail;go_roundg (q.length-(j+1));·exact⟨j+1,p,by omega,rfl,by go_num,rfl,by rw[Z.2.1];exact rd Z.2.2.1 (by decide) Z.2.2.2.1,Z.1⟩
 omega)
 have hm:=Z.2.2.2.2 c hN;have HM:=oH hm;have tc:decide ((c:Int)<0)=false:=by simp
 clear a7 e4 hN Y hw e5 T hy hm;by_cases a1:p=0
 ·have t0:((p:Int) !=0)=false:=by rw[gj];omega
  clear a1 b2;go_wp2_with fail;refine HM.out.mono ?_;rintro e w8 ⟨mm,rfl,k3,e6,e7⟩;have e8:=J2 e6 e7;clear e6 e7;go_wp2_with fail;go_roundg (q.length-(j+1));·exact⟨j+1,mm,by omega,rfl,by go_num,rfl,by rw[Z.2.1];exact sY Z.2.2.1 Z.2.2.2.1 e8.1,Z.1.trans e8.2⟩
  omega
 have t0:((p:Int) !=0)=true:=by rw[bne_iff_ne];omega
 have c5:¬y<0:=by omega
 have ty:decide (y<0)=false:=by simpa using c5
 clear a1 b2;go_wp2_with fail;refine HM.out.mono ?_;rintro e w8 ⟨mm,rfl,k3,e6,e7⟩;have e8:=J2 e6 e7;clear e6 e7;go_wp2_with fail;go_roundg (q.length-(j+1));·exact⟨j+1,mm,by omega,rfl,by go_num,rfl,by rw[Z.2.1];exact sY Z.2.2.1 Z.2.2.2.1 e8.1,Z.1.trans e8.2⟩
 omega)
 have a1:p≠0:=fun e=>Y (.inl e);have c5:u p<0:=by refine Classical.byContradiction fun h=>Y (.inr (by omega))
 obtain⟨y,hy⟩:=eR (u p);rw[hy] at c1 c5;have t0:((p:Int) !=0)=true:=by rw[bne_iff_ne];omega
 have ty:decide (y<0)=true:=by simpa using c5
 have Z:=J4 a7 e4 hN Y;clear a7 e4 hN Y e5 T hy a1;go_wp2_with fail;go_roundg (q.length-(j+1));·exact⟨j+1,v,by omega,rfl,by go_num,rfl,by rw[Z.2.1];exact AG Z.2.2.1 Z.2.2.2,Z.1⟩
 omega)
 obtain rfl:j=q.length:=by omega
 rw[dZ] at hN;obtain⟨p0,a1,h6⟩:=l.1.fwd k b0 HN.2.2.2.2.2.2.2.2.2;have c4:=HN.2.2.2.2.2.2.2.2.1;have Y:=js HN.1 p0 (lq a1) (by omega);have b8:=Dt hN HN.2.2.2.2.2.2.1 ⟨p0,a1,Y⟩;obtain⟨e9,c,rfl,k9,k4⟩:=Db l.1 HN.2.1 b0 HN.2.2.2.2.2.2.2.2.2 ⟨p0,a1,h6,Y⟩ b8;have c6:=DF l.1 (by rw[c4];exact HN.1) b0 b8;rw[c4] at c6;have c1:=T.tn.cell k;have f1:=T.tn.free k;rw[bI b0] at c1;have hold:=HN.1.old k (by omega);obtain⟨y,hy⟩:=eR (u k);rw[hy] at c1 hold;have R:(aN ll.length u).setIfInBounds k (.int .i64 c)=aN ll.length (fun j=>if j=k then(c:Int) else u j):=oS (ap rfl) fun j _ b4=>ae b4;clear hN Y b8 a1 h6 c4 k4;by_cases c7:y=c;·(
 have ty:(y !=(c:Int))=false:=by rw[gj];exact c7
 have hu:(fun j=>if j=k then(c:Int) else u j)=u:=by
  funext j;by_cases e:j=k;·subst e;rw[ap rfl,hy,c7]
  rw[ae e]
 rw[hu] at e9 c6;have C:=J4 e9 c6 a7 T;clear e9 c6 a7 T R hu hold c7 hy;go_wp2_with fail;go_roundg (ll.length-1-(m+1));·exact⟨m+1,b,u,by omega,rfl,by go_num,rfl,C.2.1,C.1,HN.2.2.1,HN.2.2.2.1,HN.2.2.2.2.1.trans C.2.2.1.all,C.2.2.2⟩
 omega)
 have ty:(y !=(c:Int))=true:=by rw[bne_iff_ne];exact c7
 have b4:∃j,j<ll.length∧(if j=k then(c:Int) else u j)≠t j:=⟨k,b0,by rw[ap rfl,←hold];exact fun e=>c7 e.symm⟩;have C:=J6 e9 c6 a7 T R b4;clear e9 c6 a7 T R hold c7 hy b4;go_wp2_with fail;go_roundg (ll.length-1-(m+1))
 ·have T:=C.2.2.2.1
  refine⟨m+1,true,fun j=>if j=k then(c:Int) else u j,by omega,rfl,by go_num,rfl,C.2.1,C.1,(fun h=>by cases h),fun _=>C.2.2.2.2.2,(HN.2.2.2.2.1.trans C.2.2.1.all).setCell (.inl fun h=>h rfl) _,⟨T.pp.far n1 _,T.tp.far n2 _,T.pn.far n3 _,?_⟩⟩;rw[←C.2.2.2.2.1];exact T.tn.set _ _
 omega)
 obtain rfl:m=ll.length-1:=by omega
 rw[show ll.length-1+1=ll.length by omega] at hP;have i0:=hT.tp.cell 0;simp only[gc] at i0;have C:=J6 hP hG b7 o I hT;clear hP hG b7 o I hT;cases b with
 |true=>
  go_wp2_with fail
  go_step3
  refine⟨rfl,_,((GH l.1 l.2.2.1 C.2.1 C.1 _ (cf _)).2 (C.2.2.2.1 (by simp))),ord,pl,u,pb,tb,pn,tn,_,_,rfl,l.1,⟨l.2.2.2.2.2.2.2,l.2.1⟩,sN l.1 l.2.2.1 C.2.1 C.1,⟨rfl,rfl,rfl,rfl,rfl,rfl,rfl,rfl⟩,
   am (l.2.2.2.1.all.trans (C.2.2.2.2.1.mono fun b (hb:b<w.heap.size)=>by show b≠tn;omega)),l.2.2.2.2.1 _ C.2.2.2.2.1,l.2.2.2.2.2.1 _ C.2.2.2.2.1,C.2.2.2.2.2,hh,n1,n2,n3⟩
 |false=>go_wp2_with fail;simp only[Exit.jump];go_ret;obtain rfl:u=t:=C.2.2.1 (by simp);have G:=C.2.1;have O:=l.1;refine⟨_,u,pl,rfl,am (l.2.2.2.1.all.trans (C.2.2.2.2.1.mono fun b (hb:b<w.heap.size)=>by show b≠tn;omega)),sL C.2.2.2.2.2.tn (by omega) (by omega) (fun i hi=>BW G hl hi),⟨O,G,fun j hj=>js C.1 j hj (O.lt j hj),fun j hj x=>BK O l.2.2.1 C.1 hj⟩⟩
end
end Go.Proofs.YtceloincoomjeaaGreatDoor
