/- Part 34 of the proof of CallsTo (its last part says what is proved). No condition. -/
import Derived.Test.YtceloincoomjeaaGreatDoorK32
namespace Go.Proofs.YtceloincoomjeaaGreatDoor
set_option maxRecDepth 100000
set_option maxHeartbeats 8000000
open Go.RowKit Go.Proofs.Tryz
section
attribute [local go_sem] lh qb xr ju nA nE nB nC Ku ms rq nD wL pD
attribute [local go_sem] pm lU jt mU List.getElem?_toArray List.getElem?_cons_zero
theorem dl (S:Nat→Prop)(A:Option Addr)(cap:Nat)(up:List (BitVec 64))(i k:Nat)(c:Bool)(w:World)(l:nZ S w (.slice A up.length cap) up)(hi:i<up.length)(J:k<64)(_:up.length≤64)(C:(aJ up i).getLsbD k=c):
 Calls prog 119 #[.slice A up.length cap,.int .i64 i,.int .i64 k] w fun e I=>e=.returned (.bool c)∧w=I:=by
 obtain⟨b,o,rfl,_,Y⟩:=lx l hi;have j:=fun w=>GV (aJ up i) k J w;rw[C] at j;have R:=oH j;clear j l C;go_enter func119,ntmps119;go_wp2_with (go_at_call 163;refine(R.out _).mono ?_;rintro e I ⟨rfl,rfl⟩);go_ret;exact⟨rfl,rfl⟩
theorem Kr {x y:BitVec 64}:(x|||y=y)↔x&&& ~~~y=0#64:=by
 rw[pZ];constructor
 ·intro h k _ j
  have:=congrArg (fun z=>z.getLsbD k) h;simp only[BitVec.getLsbD_or,j,Bool.true_or] at this;exact this.symm
 intro h;apply BitVec.eq_of_getLsbD_eq;intro i hi;rw[BitVec.getLsbD_or];cases j:x.getLsbD i with
 |false=>rfl
 |true=>rw[h i hi j];rfl
theorem AY (S:Nat→Prop)(v:Value)(up:List (BitVec 64))(w:World)(hv:nZ S w v up):
 Calls prog 91 #[v] w fun e w'=>e=.returned (.bool (pB (dI up)))∧aa All w w':=by
 have b6:=hv;obtain⟨A,cap,rfl,h1,h2,_,_⟩:=hv;unfold maxLen at h2;have HU:=oH fun wn (l:aa All w wn)=>dU.keep (S:=S) l.all b6;clear b6;go_enter func91,ntmps91;by_cases hn:up.length<1∨64<up.length
 ·have a6:=oH (au (P:=dI up) fun h=>by have:=h.1;have:=h.2.1;omega);have hr:decide ((up.length:Int)<1)=true∨(decide ((up.length:Int)<1)=false∧decide ((64:Int)<up.length)=true):=by simp only[iH,decide_eq_false_iff_not];omega
  clear hn;rcases hr with hr|⟨hr,c1⟩
  all_goals
   go_wp2;go_ret;exact⟨by rw[a6.out];rfl,kR⟩
 have hr:decide ((up.length:Int)<1)=false:=by simp;omega
 have c1:decide ((64:Int)<up.length)=false:=by simp;omega
 have b7:up.length≤64:=by omega
 have b8:1≤up.length:=by omega
 clear hn;go_wp2;go_loopg [3] up.length (fun g i wr=>∃i0:Nat,i0≤up.length∧g=up.length-i0∧i=.int .i64 i0∧aa All w wr∧∀x,x<i0→uC up x);·exact⟨0,by omega,by omega,rfl,kR,fun x hx=>by omega⟩
 obtain⟨i,hi,rfl,rfl,l,b0⟩:=hrel;have HA:=J2 l b0;clear l b0;by_cases R:i<up.length;·(
 have b9:=fun wn (l:aa All w wn) (a k:Nat) (c:Bool) (ha:a<up.length) (c2:k<64) (hb:(aJ up a).getLsbD k=c)=>dl S A cap up a k c wn (HU.out wn l) ha c2 b7 hb;have a7:=oH b9;clear b9;cases Y:(aJ up i).getLsbD i with
 |false=>have a6:=oH (au (P:=dI up) fun h=>by have:=(fL.1 h).2.2 i R;rw[uC,Y] at this;exact oG this.1);go_wp2_with (go_at_call 119;refine(a7.out _ HA.1 i i _ R (by omega) Y).mono ?_;rintro e w' ⟨rfl,rfl⟩);go_ret;exact⟨by rw[a6.out];rfl,HA.1⟩
 |true=>
  go_wp2_with (go_at_call 119;refine(a7.out _ HA.1 i i _ R (by omega) Y).mono ?_;rintro e w' ⟨rfl,rfl⟩);have HS:=oH Y;clear Y;go_loopg [4] 64 (fun g j wr=>∃k:Nat,k≤64∧g=64-k∧j=.int .i64 k∧aa All w wr∧∀x,x<k→(aJ up i).getLsbD x=true→x<up.length∧qN up i x);·exact⟨0,by omega,by omega,rfl,HA.1,fun x hx=>by omega⟩
  obtain⟨k,l,rfl,rfl,c0,b0⟩:=hrel;have HB:=J2 c0 b0;clear c0 b0;by_cases J:k<64;·(
 cases I:(aJ up i).getLsbD k with
 |false=>
  have Z:Hid ((aJ up i).getLsbD k=true→k<up.length∧qN up i k):=oH fun h=>by rw[I] at h;cases h
  go_wp2_with (go_at_call 119;refine(a7.out _ HB.1 i k _ R J I).mono ?_;rintro e w' ⟨rfl,rfl⟩);go_roundg (64-(k+1))
  ·refine⟨k+1,by omega,rfl,by go_num,HB.1,fun x hx hb=>?_⟩;by_cases e:x=k;·subst e;exact Z.out hb
   exact HB.2 x (by omega) hb
  omega
 |true=>
  by_cases b3:up.length≤k;·(
 have C:decide ((up.length:Int)≤(k:Int))=true:=by simp;omega
 have a6:=oH (au (P:=dI up) fun h=>by have:=((fL.1 h).2.2 i R).2.1 k J I;omega);go_wp2_with (go_at_call 119;refine(a7.out _ HB.1 i k _ R J I).mono ?_;rintro e w' ⟨rfl,rfl⟩);refine eK (aa All wr) [] (fun _ _ _=>True) (fun _=>none) (by kernel_rfl) (by kernel_rfl) (by kernel_rfl) (by kernel_rfl) kR.drew ?_;iterate 5 (refine bG (by rfl) (by rfl) (by intro d C;cases C;decide) (fun wn l hp=>by(go_simp;with_reducible rfl)) ?_;simp only[PS])
 iterate 9 (refine jf (by rfl) (by intro d C;cases C;decide) ?_;simp only[PS])
 iterate 2 (refine bG (by rfl) (by rfl) (by intro d C;cases C;decide) (fun wn l hp=>by(go_simp;with_reducible rfl)) ?_;simp only[PS])
 iterate 14 (refine jf (by rfl) (by intro d C;cases C;decide) ?_;simp only[PS])
 iterate 1 (refine bG (by rfl) (by rfl) (by intro d C;cases C;decide) (fun wn l hp=>by(go_simp;with_reducible rfl)) ?_;simp only[PS])
 refine dQ fun wn l _=>?_;have HN:=oH (HB.1.trans l);clear l;go_wp2;go_ret;exact⟨by rw[a6.out];rfl,HN.out⟩)
  have C:decide ((up.length:Int)≤(k:Int))=false:=by simp;omega
  have b4:k<up.length:=by omega
  have b1:∀wn,aa All wr wn→∃b o,A=some ⟨b,o,none⟩∧wn.cell? ⟨b,o+i,none⟩=some (U (aJ up i))∧wn.cell? ⟨b,o+k,none⟩=some (U (aJ up k)):=fun wn b3=>by have hu:=HU.out wn (HB.1.trans b3);obtain⟨bb,o,e,_,hc⟩:=lx hu R;obtain⟨c5,o',e',_,c3⟩:=lx hu b4;rw[e] at e';cases e';exact⟨bb,o,e,hc,c3⟩
  obtain⟨bb,o,rfl,_⟩:=b1 wr kR;have b2:∀wn,aa All wr wn→wn.cell? ⟨bb,o+i,none⟩=some (U (aJ up i))∧wn.cell? ⟨bb,o+k,none⟩=some (U (aJ up k)):=fun wn b3=>by obtain⟨b',o',e,h3,h4⟩:=b1 wn b3;cases e;exact⟨h3,h4⟩
  have HC:=J2 b2 (fun wn (l:aa All wr wn) (c:Bool) (hb:(aJ up k).getLsbD i=c)=>a7.out wn (HB.1.trans l) k i c b4 (by omega) hb);clear b1 b2;by_cases a8:k=i;·(
 have c4:((k:Int) !=(i:Int))=false:=by simp[a8]
 have b5:(aJ up k|||aJ up i !=aJ up i)=false:=by rw[a8,BitVec.or_self];simp
 have Z:Hid (k<up.length∧qN up i k):=oH ⟨b4,fun h=>absurd a8 h,by rw[a8,pZ];exact fun _ _ h=>h⟩;clear a8;go_wp2_with (go_at_call 119;refine(a7.out _ HB.1 i k _ R J I).mono ?_;rintro e w' ⟨rfl,rfl⟩);refine eK (aa All wr) [] (fun _ _ _=>True) (fun _=>none) (by kernel_rfl) (by kernel_rfl) (by kernel_rfl) (by kernel_rfl) kR.drew ?_;iterate 9 (refine bG (by rfl) (by rfl) (by intro d C;cases C;decide) (fun wn l hp=>by(obtain⟨e1,e2⟩:=HC.1 wn l;go_simp;with_reducible rfl)) ?_;simp only[PS])
 iterate 4 (refine jf (by rfl) (by intro d C;cases C;decide) ?_;simp only[PS])
 iterate 18 (refine bG (by rfl) (by rfl) (by intro d C;cases C;decide) (fun wn l hp=>by(obtain⟨e1,e2⟩:=HC.1 wn l;go_simp;with_reducible rfl)) ?_;simp only[PS])
 refine dQ fun wn l _=>?_;have HN:=oH (HB.1.trans l);clear l;go_wp2;go_roundg (64-(k+1))
 ·refine⟨k+1,by omega,rfl,by go_num,HN.out,fun x hx hb=>?_⟩
  by_cases e:x=k;·subst e;exact Z.out
  exact HB.2 x (by omega) hb
 omega)
  have c4:((k:Int) !=(i:Int))=true:=by simp;omega
  cases a1:(aJ up k).getLsbD i with
  |true=>
   have a6:=oH (au (P:=dI up) fun h=>by have:=(((fL.1 h).2.2 i R).2.2 k J I).1 a8;rw[this] at a1;cases a1);clear a8;go_wp2_with (go_at_call 119;refine(a7.out _ HB.1 i k _ R J I).mono ?_;rintro e w' ⟨rfl,rfl⟩);refine eK (aa All wr) [] (fun _ _ _=>True) (fun k=>if k=12 then some (fun v=>v=.bool true) else none) (by kernel_rfl) (by kernel_rfl) (by kernel_rfl) (by kernel_rfl) kR.drew ?_;iterate 12 (refine bG (by rfl) (by rfl) (by intro d C;cases C;decide) (fun wn l hp=>by(obtain⟨e1,e2⟩:=HC.1 wn l;go_simp;with_reducible rfl)) ?_;simp only[PS])
   refine gi (by rfl) (by rfl) (fun wn l hp=>?_) ?_;·skip;go_simp;simp only[kl];refine(HC.2 wn l _ a1).mono ?_;rintro e2 wq ⟨rfl,rfl⟩;exact⟨_,rfl,rfl,l,fun _ _ _ _=>trivial,fun _ _ _=>trivial⟩
   rintro v rfl;simp only[PS];iterate 3 (refine bG (by rfl) (by rfl) (by intro d C;cases C;decide) (fun wn l hp=>by(obtain⟨e1,e2⟩:=HC.1 wn l;go_simp;with_reducible rfl)) ?_;simp only[PS])
   iterate 14 (refine jf (by rfl) (by intro d C;cases C;decide) ?_;simp only[PS])
   iterate 1 (refine bG (by rfl) (by rfl) (by intro d C;cases C;decide) (fun wn l hp=>by(obtain⟨e1,e2⟩:=HC.1 wn l;go_simp;with_reducible rfl)) ?_;simp only[PS])
   refine dQ fun wn l _=>?_;have HN:=oH (HB.1.trans l);clear l;go_wp2;go_ret;exact⟨by rw[a6.out];rfl,HN.out⟩
  |false=>
   cases b5:(aJ up k|||aJ up i !=aJ up i) with
   |true=>
    have a6:=oH (au (P:=dI up) fun h=>by have:=(((fL.1 h).2.2 i R).2.2 k J I).2;rw[Kr.2 this] at b5;simp at b5);clear a8;go_wp2_with (go_at_call 119;refine(a7.out _ HB.1 i k _ R J I).mono ?_;rintro e w' ⟨rfl,rfl⟩);refine eK (aa All wr) [] (fun _ _ _=>True) (fun k=>if k=12 then some (fun v=>v=.bool false) else none) (by kernel_rfl) (by kernel_rfl) (by kernel_rfl) (by kernel_rfl) kR.drew ?_;iterate 12 (refine bG (by rfl) (by rfl) (by intro d C;cases C;decide) (fun wn l hp=>by(obtain⟨e1,e2⟩:=HC.1 wn l;go_simp;with_reducible rfl)) ?_;simp only[PS])
    refine gi (by rfl) (by rfl) (fun wn l hp=>?_) ?_;·skip;go_simp;simp only[kl];refine(HC.2 wn l _ a1).mono ?_;rintro e2 wq ⟨rfl,rfl⟩;exact⟨_,rfl,rfl,l,fun _ _ _ _=>trivial,fun _ _ _=>trivial⟩
    rintro v rfl;simp only[PS];iterate 18 (refine bG (by rfl) (by rfl) (by intro d C;cases C;decide) (fun wn l hp=>by(obtain⟨e1,e2⟩:=HC.1 wn l;go_simp;with_reducible rfl)) ?_;simp only[PS])
    refine dQ fun wn l _=>?_;have HN:=oH (HB.1.trans l);clear l;go_wp2;go_ret;exact⟨by rw[a6.out];rfl,HN.out⟩
   |false=>
    have Z:Hid (k<up.length∧qN up i k):=oH ⟨b4,fun _=>a1,Kr.1 (by simpa using b5)⟩;clear a8;go_wp2_with (go_at_call 119;refine(a7.out _ HB.1 i k _ R J I).mono ?_;rintro e w' ⟨rfl,rfl⟩);refine eK (aa All wr) [] (fun _ _ _=>True) (fun k=>if k=12 then some (fun v=>v=.bool false) else none) (by kernel_rfl) (by kernel_rfl) (by kernel_rfl) (by kernel_rfl) kR.drew ?_;iterate 12 (refine bG (by rfl) (by rfl) (by intro d C;cases C;decide) (fun wn l hp=>by(obtain⟨e1,e2⟩:=HC.1 wn l;go_simp;with_reducible rfl)) ?_;simp only[PS])
    refine gi (by rfl) (by rfl) (fun wn l hp=>?_) ?_;·skip;go_simp;simp only[kl];refine(HC.2 wn l _ a1).mono ?_;rintro e2 wq ⟨rfl,rfl⟩;exact⟨_,rfl,rfl,l,fun _ _ _ _=>trivial,fun _ _ _=>trivial⟩
    rintro v rfl;simp only[PS];iterate 18 (refine bG (by rfl) (by rfl) (by intro d C;cases C;decide) (fun wn l hp=>by(obtain⟨e1,e2⟩:=HC.1 wn l;go_simp;with_reducible rfl)) ?_;simp only[PS])
    refine dQ fun wn l _=>?_;have HN:=oH (HB.1.trans l);clear l;go_wp2;go_roundg (64-(k+1))
    ·refine⟨k+1,by omega,rfl,by go_num,HN.out,fun x hx hb=>?_⟩;by_cases e:x=k;·subst e;exact Z.out
     exact HB.2 x (by omega) hb
    omega)
  obtain rfl:k=64:=by omega
  have Z:Hid (uC up i):=oH ⟨HS.out,fun k l hb=>(HB.2 k l hb).1,fun k l hb=>(HB.2 k l hb).2⟩;go_wp2;go_roundg (up.length-(i+1))
  ·refine⟨i+1,by omega,rfl,by go_num,HB.1,fun x hx=>?_⟩;by_cases e:x=i;·subst e;exact Z.out
   exact HA.2 x (by omega)
  omega)
 obtain rfl:i=up.length:=by omega
 have HY:=oH (av (P:=dI up) (fL.2 ⟨b8,b7,HA.2⟩));go_wp2;go_ret;exact⟨by rw[HY.out];rfl,HA.1⟩
def ku (up:List (BitVec 64))(a b k:Nat):Bool:=((aJ up a).getLsbD k)&&((aJ up b).getLsbD k)
def fE (up:List (BitVec 64))(a b k m:Nat):Bool:=!((aJ up a).getLsbD m)||!((aJ up b).getLsbD m)||((aJ up k).getLsbD m)
theorem pJ (up:List (BitVec 64))(a b k:Nat):sM up a b k=(ku up a b k&&(List.range up.length).all (fE up a b k)):=rfl
theorem uD {n m:Nat}{p:Nat→Bool}(hm:m≤n)(h:(List.range m).all p=false):(List.range n).all p=false:=by
 cases o:(List.range n).all p with
 |false=>rfl
 |true=>exfalso;have:=nJ.1 o;have l:(List.range m).all p=true:=nJ.2 fun j C=>this j (by omega);rw[h] at l;cases l
theorem xJ (m:Nat)(p:Nat→Bool):(List.range (m+1)).all p=((List.range m).all p&&p m):=by rw[List.range_succ,List.all_append];simp
theorem DU (S:Nat→Prop)(v:Value)(up:List (BitVec 64))(a b:Nat)(w:World)(hv:nZ S w v up)(o:up.length≤64)(ha:a<up.length)(hb:b<up.length):
 Calls prog 92 #[v,.int .i64 a,.int .i64 b] w fun e R=>e=.returned (.int .i64 (iY up a b))∧w=R:=by
 have a8:=hv;obtain⟨A,cap,rfl,h1,h2,_,_⟩:=hv;unfold maxLen at h2;have Z:=oH a8;clear a8;go_enter func92,ntmps92;go_wp2;go_loopg [7] up.length (fun g i wr=>∃k:Nat,k≤up.length∧g=up.length-k∧i=.int .i64 k∧w=wr∧∀x,x<k→sM up a b x=false);·exact⟨0,by omega,by omega,rfl,rfl,fun x hx=>by omega⟩
 obtain⟨k,hk,rfl,rfl,rfl,Y⟩:=hrel;have HA:=oH Y;clear Y;by_cases b1:k<up.length;·(
 cases C:(aJ up a).getLsbD k with
 |false=>
  have HR:=oH (show ku up a b k=false by unfold ku;rw[C];rfl);have HF:=oH (show sM up a b k=false by rw[pJ,HR.out];rfl);go_wp2_with (go_at_call 119;refine(dl S _ _ up _ _ _ _ Z.out (by omega) (by omega) o (by assumption)).mono ?_;rintro e R ⟨rfl,rfl⟩);clear C;go_loopg [8,9] up.length (fun g is j wr=>∃m:Nat,m≤up.length∧g=up.length-m∧j=.int .i64 m∧is=.bool false∧w=wr);·exact⟨0,by omega,by omega,rfl,rfl,rfl⟩
  obtain⟨m,hm,rfl,rfl,rfl,rfl⟩:=hrel;by_cases a1:m<up.length
  all_goals
   go_wp2;go_roundg (up.length-(k+1))
   ·refine⟨k+1,by omega,rfl,by go_num,rfl,fun x hx=>?_⟩;by_cases e:x=k;·subst e;exact HF.out
    exact HA.out x (by omega)
   omega
 |true=>
  cases a6:(aJ up b).getLsbD k with
  |false=>
   have HR:=oH (show ku up a b k=false by unfold ku;rw[C,a6];rfl);have HF:=oH (show sM up a b k=false by rw[pJ,HR.out];rfl);go_wp2_with (go_at_call 119;refine(dl S _ _ up _ _ _ _ Z.out (by omega) (by omega) o (by assumption)).mono ?_;rintro e R ⟨rfl,rfl⟩);clear C;go_loopg [8,9] up.length (fun g is j wr=>∃m:Nat,m≤up.length∧g=up.length-m∧j=.int .i64 m∧is=.bool false∧w=wr);·exact⟨0,by omega,by omega,rfl,rfl,rfl⟩
   obtain⟨m,hm,rfl,rfl,rfl,rfl⟩:=hrel;by_cases a1:m<up.length
   all_goals
    go_wp2;go_roundg (up.length-(k+1))
    ·refine⟨k+1,by omega,rfl,by go_num,rfl,fun x hx=>?_⟩;by_cases e:x=k;·subst e;exact HF.out
     exact HA.out x (by omega)
    omega
  |true=>
   have HR:=oH (show ku up a b k=true by unfold ku;rw[C,a6];rfl);go_wp2_with (go_at_call 119;refine(dl S _ _ up _ _ _ _ Z.out (by omega) (by omega) o (by assumption)).mono ?_;rintro e R ⟨rfl,rfl⟩);clear C a6;go_loopg [8,9] up.length (fun g is j wr=>∃m:Nat,m≤up.length∧g=up.length-m∧j=.int .i64 m∧is=.bool ((List.range m).all (fE up a b k))∧w=wr);·exact⟨0,by omega,by omega,rfl,rfl,rfl⟩
   obtain⟨m,hm,rfl,rfl,rfl,rfl⟩:=hrel;cases I:(List.range m).all (fE up a b k) with
   |false=>
    have HF:=oH (show sM up a b k=false by rw[pJ,uD hm I];simp);clear I;by_cases a1:m<up.length
    all_goals
     go_wp2;go_roundg (up.length-(k+1));·(
 refine⟨k+1,by omega,rfl,by go_num,rfl,fun x hx=>?_⟩;by_cases e:x=k;·subst e;exact HF.out
 exact HA.out x (by omega))
     omega
   |true=>
    by_cases a1:m<up.length;·(
 have l:=xJ m (fE up a b k);rw[I,Bool.true_and] at l;cases J:(aJ up a).getLsbD m with
 |false=>
  have HN:=oH (show(List.range (m+1)).all (fE up a b k)=true by rw[l,fE,J];rfl);clear l I;go_wp2_with (go_at_call 119;refine(dl S _ _ up _ _ _ _ Z.out (by omega) (by omega) o (by assumption)).mono ?_;rintro e R ⟨rfl,rfl⟩);go_roundg (up.length-(m+1));·exact⟨m+1,by omega,rfl,by go_num,by rw[HN.out],rfl⟩
  omega
 |true=>
  cases a7:(aJ up b).getLsbD m with
  |false=>
   have HN:=oH (show(List.range (m+1)).all (fE up a b k)=true by rw[l,fE,J,a7];rfl);clear l I;go_wp2_with (go_at_call 119;refine(dl S _ _ up _ _ _ _ Z.out (by omega) (by omega) o (by assumption)).mono ?_;rintro e R ⟨rfl,rfl⟩);go_roundg (up.length-(m+1));·exact⟨m+1,by omega,rfl,by go_num,by rw[HN.out],rfl⟩
   omega
  |true=>
   cases b0:(aJ up k).getLsbD m with
   |false=>
    have HN:=oH (show(List.range (m+1)).all (fE up a b k)=false by rw[l,fE,J,a7,b0];rfl);clear l I;go_wp2_with (go_at_call 119;refine(dl S _ _ up _ _ _ _ Z.out (by omega) (by omega) o (by assumption)).mono ?_;rintro e R ⟨rfl,rfl⟩);go_roundg (up.length-(m+1));·exact⟨m+1,by omega,rfl,by go_num,by rw[HN.out],rfl⟩
    omega
   |true=>
    have HN:=oH (show(List.range (m+1)).all (fE up a b k)=true by rw[l,fE,J,a7,b0];rfl);clear l I;go_wp2_with (go_at_call 119;refine(dl S _ _ up _ _ _ _ Z.out (by omega) (by omega) o (by assumption)).mono ?_;rintro e R ⟨rfl,rfl⟩);go_roundg (up.length-(m+1));·exact⟨m+1,by omega,rfl,by go_num,by rw[HN.out],rfl⟩
    omega)
    obtain rfl:m=up.length:=by omega
    have HV:=oH (show iY up a b=k from lI b1 (by rw[pJ,HR.out,I];rfl) HA.out);clear I;go_wp2;go_ret;exact⟨by rw[HV.out];rfl,rfl⟩)
 obtain rfl:k=up.length:=by omega
 have HV:=oH (show iY up a b= -1 from jW HA.out);go_wp2;go_ret;exact⟨by rw[HV.out];rfl,rfl⟩
def kv (up:List (BitVec 64))(a b k:Nat):Bool:=((aJ up k).getLsbD a)&&((aJ up k).getLsbD b)
def fF (up:List (BitVec 64))(a b k m:Nat):Bool:=!((aJ up m).getLsbD a)||!((aJ up m).getLsbD b)||((aJ up m).getLsbD k)
theorem pN (up:List (BitVec 64))(a b k:Nat):sV up a b k=(kv up a b k&&(List.range up.length).all (fF up a b k)):=rfl
theorem DW (S:Nat→Prop)(v:Value)(up:List (BitVec 64))(a b:Nat)(w:World)(hv:nZ S w v up)(o:up.length≤64)(ha:a<up.length)(hb:b<up.length):
 Calls prog 93 #[v,.int .i64 a,.int .i64 b] w fun e R=>e=.returned (.int .i64 (iZ up a b))∧w=R:=by
 have a8:=hv;obtain⟨A,cap,rfl,h1,h2,_,_⟩:=hv;unfold maxLen at h2;have Z:=oH a8;clear a8;go_enter func93,ntmps93;go_wp2;go_loopg [7] up.length (fun g i wr=>∃k:Nat,k≤up.length∧g=up.length-k∧i=.int .i64 k∧w=wr∧∀x,x<k→sV up a b x=false);·exact⟨0,by omega,by omega,rfl,rfl,fun x hx=>by omega⟩
 obtain⟨k,hk,rfl,rfl,rfl,Y⟩:=hrel;have HA:=oH Y;clear Y;by_cases b1:k<up.length;·(
 cases C:(aJ up k).getLsbD a with
 |false=>
  have HR:=oH (show kv up a b k=false by unfold kv;rw[C];rfl);have HF:=oH (show sV up a b k=false by rw[pN,HR.out];rfl);go_wp2_with (go_at_call 119;refine(dl S _ _ up _ _ _ _ Z.out (by omega) (by omega) o (by assumption)).mono ?_;rintro e R ⟨rfl,rfl⟩);clear C;go_loopg [8,9] up.length (fun g is j wr=>∃m:Nat,m≤up.length∧g=up.length-m∧j=.int .i64 m∧is=.bool false∧w=wr);·exact⟨0,by omega,by omega,rfl,rfl,rfl⟩
  obtain⟨m,hm,rfl,rfl,rfl,rfl⟩:=hrel;by_cases a1:m<up.length
  all_goals
   go_wp2;go_roundg (up.length-(k+1))
   ·refine⟨k+1,by omega,rfl,by go_num,rfl,fun x hx=>?_⟩;by_cases e:x=k;·subst e;exact HF.out
    exact HA.out x (by omega)
   omega
 |true=>
  cases a6:(aJ up k).getLsbD b with
  |false=>
   have HR:=oH (show kv up a b k=false by unfold kv;rw[C,a6];rfl);have HF:=oH (show sV up a b k=false by rw[pN,HR.out];rfl);go_wp2_with (go_at_call 119;refine(dl S _ _ up _ _ _ _ Z.out (by omega) (by omega) o (by assumption)).mono ?_;rintro e R ⟨rfl,rfl⟩);clear C;go_loopg [8,9] up.length (fun g is j wr=>∃m:Nat,m≤up.length∧g=up.length-m∧j=.int .i64 m∧is=.bool false∧w=wr);·exact⟨0,by omega,by omega,rfl,rfl,rfl⟩
   obtain⟨m,hm,rfl,rfl,rfl,rfl⟩:=hrel;by_cases a1:m<up.length
   all_goals
    go_wp2;go_roundg (up.length-(k+1))
    ·refine⟨k+1,by omega,rfl,by go_num,rfl,fun x hx=>?_⟩;by_cases e:x=k;·subst e;exact HF.out
     exact HA.out x (by omega)
    omega
  |true=>
   have HR:=oH (show kv up a b k=true by unfold kv;rw[C,a6];rfl);go_wp2_with (go_at_call 119;refine(dl S _ _ up _ _ _ _ Z.out (by omega) (by omega) o (by assumption)).mono ?_;rintro e R ⟨rfl,rfl⟩);clear C a6;go_loopg [8,9] up.length (fun g is j wr=>∃m:Nat,m≤up.length∧g=up.length-m∧j=.int .i64 m∧is=.bool ((List.range m).all (fF up a b k))∧w=wr);·exact⟨0,by omega,by omega,rfl,rfl,rfl⟩
   obtain⟨m,hm,rfl,rfl,rfl,rfl⟩:=hrel;cases I:(List.range m).all (fF up a b k) with
   |false=>
    have HF:=oH (show sV up a b k=false by rw[pN,uD hm I];simp);clear I;by_cases a1:m<up.length
    all_goals
     go_wp2;go_roundg (up.length-(k+1));·(
 refine⟨k+1,by omega,rfl,by go_num,rfl,fun x hx=>?_⟩;by_cases e:x=k;·subst e;exact HF.out
 exact HA.out x (by omega))
     omega
   |true=>
    by_cases a1:m<up.length;·(
 have l:=xJ m (fF up a b k);rw[I,Bool.true_and] at l;cases J:(aJ up m).getLsbD a with
 |false=>
  have HN:=oH (show(List.range (m+1)).all (fF up a b k)=true by rw[l,fF,J];rfl);clear l I;go_wp2_with (go_at_call 119;refine(dl S _ _ up _ _ _ _ Z.out (by omega) (by omega) o (by assumption)).mono ?_;rintro e R ⟨rfl,rfl⟩);go_roundg (up.length-(m+1));·exact⟨m+1,by omega,rfl,by go_num,by rw[HN.out],rfl⟩
  omega
 |true=>
  cases a7:(aJ up m).getLsbD b with
  |false=>
   have HN:=oH (show(List.range (m+1)).all (fF up a b k)=true by rw[l,fF,J,a7];rfl);clear l I;go_wp2_with (go_at_call 119;refine(dl S _ _ up _ _ _ _ Z.out (by omega) (by omega) o (by assumption)).mono ?_;rintro e R ⟨rfl,rfl⟩);go_roundg (up.length-(m+1));·exact⟨m+1,by omega,rfl,by go_num,by rw[HN.out],rfl⟩
   omega
  |true=>
   cases b0:(aJ up m).getLsbD k with
   |false=>
    have HN:=oH (show(List.range (m+1)).all (fF up a b k)=false by rw[l,fF,J,a7,b0];rfl);clear l I;go_wp2_with (go_at_call 119;refine(dl S _ _ up _ _ _ _ Z.out (by omega) (by omega) o (by assumption)).mono ?_;rintro e R ⟨rfl,rfl⟩);go_roundg (up.length-(m+1));·exact⟨m+1,by omega,rfl,by go_num,by rw[HN.out],rfl⟩
    omega
   |true=>
    have HN:=oH (show(List.range (m+1)).all (fF up a b k)=true by rw[l,fF,J,a7,b0];rfl);clear l I;go_wp2_with (go_at_call 119;refine(dl S _ _ up _ _ _ _ Z.out (by omega) (by omega) o (by assumption)).mono ?_;rintro e R ⟨rfl,rfl⟩);go_roundg (up.length-(m+1));·exact⟨m+1,by omega,rfl,by go_num,by rw[HN.out],rfl⟩
    omega)
    obtain rfl:m=up.length:=by omega
    have HV:=oH (show iZ up a b=k from lI b1 (by rw[pN,HR.out,I];rfl) HA.out);clear I;go_wp2;go_ret;exact⟨by rw[HV.out];rfl,rfl⟩)
 obtain rfl:k=up.length:=by omega
 have HV:=oH (show iZ up a b= -1 from jW HA.out);go_wp2;go_ret;exact⟨by rw[HV.out];rfl,rfl⟩
theorem us (S:Nat→Prop)(v:Value)(up:List (BitVec 64))(w:World)(hv:nZ S w v up):
 Calls prog 61 #[v] w fun e Y=>e=.returned (.bool (pB (ue up)))∧aa All w Y:=by
 have l:=AY S v up w hv;have Z:=hv;obtain⟨A,cap,rfl,h1,h2,_,_⟩:=hv;unfold maxLen at h2;by_cases ho:dI up;·(
 rw[av ho] at l;have a6:=ho.2.1;have HU:=oH fun wn (hk:aa All w wn)=>dU.keep (S:=S) hk.all Z;have HO:=J2 l ho;clear l ho Z;go_enter func61,ntmps61;go_wp2_with fail;refine HO.1.mono ?_;rintro e w1 ⟨rfl,C⟩;have H1:=oH C;clear C;go_wp2_with fail;go_loopg [3] up.length (fun g i wr=>∃a:Nat,a≤up.length∧g=up.length-a∧i=.int .i64 a∧w1=wr∧∀x,x<a→∀y,y<x→0≤iY up x y∧0≤iZ up x y);·exact⟨0,by omega,by omega,rfl,rfl,fun x hx=>by omega⟩
 obtain⟨a,ha,rfl,rfl,rfl,o⟩:=hrel;have HA:=oH o;clear o;by_cases a1:a<up.length;·(
 go_wp2_with fail;go_loopg [4] a (fun g i wr=>∃b:Nat,b≤a∧g=a-b∧i=.int .i64 b∧w1=wr∧∀y,y<b→0≤iY up a y∧0≤iZ up a y);·exact⟨0,by omega,by omega,rfl,rfl,fun x hx=>by omega⟩
 obtain⟨b,hb,rfl,rfl,rfl,o⟩:=hrel;have HB:=oH o;clear o;by_cases a7:b<a;·(
 have hj:=fun wn (hk:aa All w wn)=>DU S (.slice A up.length cap) up a b wn (HU.out wn hk) a6 a1 (by omega);have hm:=fun wn (hk:aa All w wn)=>DW S (.slice A up.length cap) up a b wn (HU.out wn hk) a6 a1 (by omega);have b3: -1≤iY up a b∧iY up a b<up.length:=wP _ _;have b4: -1≤iZ up a b∧iZ up a b<up.length:=wP _ _;have a8:¬(0≤iY up a b∧0≤iZ up a b)→pB (ue up)=false:=fun h=>au fun h'=>h (h'.2 a a1 b a7);have R:0≤iY up a b∧0≤iZ up a b→∀y,y<b+1→0≤iY up a y∧0≤iZ up a y:=fun h y hy=>by
  by_cases e:y=b;·subst e;exact h
  exact HB.out y (by omega)
 generalize iY up a b=j at*;generalize iZ up a b=m at*;have J:=J4 hj hm a8 R;clear hj hm a8 R;by_cases b0:j<0
 ·have hd:decide (j<0)=true:=by simpa using b0
  have I:=oH (J.2.2.1 (by omega));go_wp2_with (first|(go_at_call 92;refine(J.1 _ H1.out).mono ?_;rintro e Y ⟨rfl,rfl⟩)|(go_at_call 93;refine(J.2.1 _ H1.out).mono ?_;rintro e Y ⟨rfl,rfl⟩));go_ret;exact⟨by rw[I.out];rfl,H1.out⟩
 have hd:decide (j<0)=false:=by simpa using b0
 by_cases b1:m<0
 ·have b2:decide (m<0)=true:=by simpa using b1
  have I:=oH (J.2.2.1 (by omega));go_wp2_with (first|(go_at_call 92;refine(J.1 _ H1.out).mono ?_;rintro e Y ⟨rfl,rfl⟩)|(go_at_call 93;refine(J.2.1 _ H1.out).mono ?_;rintro e Y ⟨rfl,rfl⟩));go_ret;exact⟨by rw[I.out];rfl,H1.out⟩
 have b2:decide (m<0)=false:=by simpa using b1
 have HY:=oH (J.2.2.2 (by omega));go_wp2_with (first|(go_at_call 92;refine(J.1 _ H1.out).mono ?_;rintro e Y ⟨rfl,rfl⟩)|(go_at_call 93;refine(J.2.1 _ H1.out).mono ?_;rintro e Y ⟨rfl,rfl⟩));go_roundg (a-(b+1));·exact⟨b+1,by omega,rfl,by go_num,rfl,HY.out⟩
 omega)
 obtain rfl:b=a:=by omega
 go_wp2_with fail;go_roundg (up.length-(b+1))
 ·refine⟨b+1,by omega,rfl,by go_num,rfl,fun x hx=>?_⟩
  by_cases e:x=b;·subst e;exact HB.out
  exact HA.out x (by omega)
 omega)
 obtain rfl:a=up.length:=by omega
 have HY:=oH (av (P:=ue up) ⟨HO.2,HA.out⟩);go_wp2_with fail;go_ret;exact⟨by rw[HY.out];rfl,H1.out⟩)
 rw[au ho] at l;have I:=oH (au (P:=ue up) fun h=>ho h.1);have HP:=oH l;clear l ho Z;go_enter func61,ntmps61;go_wp2_with fail;refine HP.out.mono ?_;rintro e w1 ⟨rfl,C⟩;have H1:=oH C;clear C;go_wp2_with fail;go_ret;exact⟨by rw[I.out];rfl,H1.out⟩
end
def BA:Array Value:=(mu.map fun l=>Value.string ⟨l.toArray⟩).toArray
theorem Ex {k:Nat}{l:List UInt8}(h:mu[k]? =some l):BA[k]? =some (.string ⟨l.toArray⟩):=by simp[BA,h]
theorem DZ (s:ByteArray)(w:World):Calls prog 95 #[.string s] w fun e w'=>e=.returned (.bool (jv s))∧aa All w w':=by
 have C:mu.length=26:=rfl;go_enter func95,ntmps95;go_wp2;go_loopg [4] 26 (fun g i wr=>∃k:Nat,k≤26∧g=26-k∧i=.int .i64 k∧aa All w wr∧al wr w.heap.size 9 BA∧∀y∈mu.take k,(fun l:List UInt8=>s.toList==l) y=false);·exact⟨0,by omega,by omega,rfl,kR.alloc _,al.new _ _ _,by simp⟩
 obtain⟨k,hk,rfl,rfl,j,o,I⟩:=hrel;have J:=J3 j o I;by_cases a1:k<26
 ·obtain⟨l,R⟩:∃l,mu[k]? =some l:=⟨_,lG (by omega)⟩;have hc:=o.cell k;rw[Ex R] at hc;have HL:=J2 R C;clear j o I R C;cases hq:l==s.toList with
  |true=>have Y:jv s=true:=mW.2 ⟨l,mG HL.1,by rw[cy] at hq⊢;exact hq.symm⟩;have Z:=oH Y;clear Y;go_wp2;go_ret;exact⟨by rw[Z.out];rfl,J.1⟩
  |false=>
   have Z:=oH (pP (p:=fun l:List UInt8=>s.toList==l) HL.1 (by rw[bE] at hq⊢;exact fun e=>hq e.symm) J.2.2);go_wp2;go_roundg (26-(k+1));·exact⟨k+1,by omega,rfl,by go_num,J.1,J.2.1,Z.out⟩
   omega
 obtain rfl:k=26:=by omega
 have Y:jv s=false:=by have h:=J.2.2;rw[←C,dZ] at h;exact List.any_eq_false.2 fun l R=>by have e:(s.toList==l)=false:=h l R;rw[e];simp
 have Z:=oH Y;clear Y j o I;go_wp2;go_ret;exact⟨by rw[Z.out];rfl,J.1⟩
theorem AT (r:Int)(w:World):Calls prog 125 #[.int .i64 r] w fun e j=>e=.returned (.bool (fY r))∧w=j:=by
 unfold fY od;by_cases l:48≤r
 ·go_enter func125,ntmps125
  go_wp2;go_ret;exact⟨by simp[l],rfl⟩
 go_enter func125,ntmps125;go_wp2;go_ret;exact⟨by simp;omega,rfl⟩
theorem zg (r:Int)(w:World)(I:0≤r)(J:r≤2147483647):Calls prog 124 #[.int .i64 r] w fun e o=>e=.returned (.bool (ey r))∧w=o:=by
 have j:(r<65∨(65≤r∧r≤90)∨(91≤r∧r≤94))∨(r=95∨r=96∨(97≤r∧r≤122))∨((123≤r∧r≤912)∨(913≤r∧r≤929)∨r=930)∨((931≤r∧r≤937)∨(938≤r∧r≤944)∨(945≤r∧r≤969)∨970≤r):=by omega
 rcases j with (h|⟨h,h'⟩|⟨h,h'⟩)|(rfl|rfl|⟨h,h'⟩)|(⟨h,h'⟩|⟨h,h'⟩|rfl)|(⟨h,h'⟩|⟨h,h'⟩|⟨h,h'⟩|h)
 all_goals
  try have C:(r==95)=false:=by rw[bE];omega
  try have l:(r !=930)=true:=by rw[bne_iff_ne];omega
  go_enter func124,ntmps124;go_wp2
 all_goals
  go_ret;exact⟨congrArg Ending.returned (congrArg Value.bool (by first|rfl|(rw[Bool.eq_iff_iff];simp[ey,od];omega))),rfl⟩
section
def dt (s:ByteArray)(i:Nat):Nat:=(s.get! i).toNat
theorem mb (s:ByteArray)(i:Nat):dt s i<256:=(s.get! i).toNat_lt
theorem dA (s:ByteArray)(i:Nat)(h:i<s.size):dt s i=(s[i]' h).toNat:=by unfold dt;rw[show s.get! i=s[i]' h by simpa using get_at s i h]
def aW (s:ByteArray)(i lo hi:Nat):Bool:=decide (i<s.size)&&decide (lo≤dt s i)&&decide (dt s i≤hi)
theorem Gj (s:ByteArray)(i lo hi:Nat)(w:World):Calls prog 164 #[.string s,.int .i64 i,.int .u8 lo,.int .u8 hi] w fun e o=>e=.returned (.bool (aW s i lo hi))∧w=o:=by
 unfold aW;by_cases h:i<s.size;·(
 have l:=oH (dA s i h);by_cases j:lo≤(s[i]' h).toNat
 ·go_enter func164,ntmps164
  go_wp2;go_ret;exact⟨by rw[l.out];simp[h,j],rfl⟩
 have C:decide (lo≤(s[i]' h).toNat)=false:=by simpa using j
 go_enter func164,ntmps164;go_wp2
 all_goals
  go_ret;exact⟨by rw[l.out];simp[h];omega,rfl⟩)
 go_enter func164,ntmps164;go_wp2;go_ret;exact⟨by simp[h],rfl⟩
theorem kz (s:ByteArray)(a lo hi:Int)(i:Nat)(w:World)(j:a=i)(C:0≤lo∧lo<256)(I:0≤hi∧hi<256)(_:s.size≤9223372036854775807):Calls prog 164 #[.string s,.int .i64 a,.int .u8 lo,.int .u8 hi] w fun e o=>e=.returned (.bool (aW s i lo.toNat hi.toNat))∧w=o:=by obtain⟨l,rfl⟩:∃l:Nat,lo=l:=⟨lo.toNat,by omega⟩;obtain⟨h,rfl⟩:∃h:Nat,hi=h:=⟨hi.toNat,by omega⟩;subst j;rw[dP,dP];exact Gj s i l h w
theorem JX (n:Nat)(h:n<256):IntKind.u8.wrap (n:Int)=n:=by simp[IntKind.wrap,IntKind.bits,IntKind.signed];omega
section
variable {P:Program} {w:World} (t:TypeId) (x:UInt8)
theorem ww (m:Nat)(hm:m<256):(binOp .and t (.int .u8 (x.toNat:Int)) (.int .u8 (m:Int))).run P w=.ok (.int .u8 ((x.toNat&&&m:Nat):Int)) w:=by
 show Result.ok (Value.int .u8 (IntKind.u8.wrap ((BitVec.ofInt 8 (x.toNat:Int)&&&BitVec.ofInt 8 (m:Int)).toNat:Int))) w=_;have j:=x.toNat_lt;have e:(BitVec.ofInt 8 (x.toNat:Int)&&&BitVec.ofInt 8 (m:Int)).toNat=x.toNat&&&m:=by rw[BitVec.toNat_and,BitVec.toNat_ofInt,BitVec.toNat_ofInt];congr 1<;>omega
 rw[e,JX _ (Nat.lt_of_le_of_lt Nat.and_le_left j)]
theorem Kh:(binOp .and t (.int .u8 (x.toNat:Int)) (.int .u8 31)).run P w=.ok (.int .u8 ((x.toNat%32:Nat):Int)) w:=by rw[←Nat.and_two_pow_sub_one_eq_mod x.toNat 5];exact ww t x 31 (by decide)
theorem Ki:(binOp .and t (.int .u8 (x.toNat:Int)) (.int .u8 63)).run P w=.ok (.int .u8 ((x.toNat%64:Nat):Int)) w:=by rw[←Nat.and_two_pow_sub_one_eq_mod x.toNat 6];exact ww t x 63 (by decide)
theorem Kg:(binOp .and t (.int .u8 (x.toNat:Int)) (.int .u8 15)).run P w=.ok (.int .u8 ((x.toNat%16:Nat):Int)) w:=by rw[←Nat.and_two_pow_sub_one_eq_mod x.toNat 4];exact ww t x 15 (by decide)
theorem Me:(binOp .and t (.int .u8 (x.toNat:Int)) (.int .u8 7)).run P w=.ok (.int .u8 ((x.toNat%8:Nat):Int)) w:=by rw[←Nat.and_two_pow_sub_one_eq_mod x.toNat 3];exact ww t x 7 (by decide)
end
attribute [local go_sem] Kh Ki Kg Me
def aM (s:ByteArray)(i:Nat):Nat×Nat:=
 if dt s i<128 then(dt s i,1)
 else if(194≤dt s i∧dt s i≤223)∧aW s (i+1) 128 191=true then(dt s i%32*64+dt s (i+1)%64,2)
 else if(224≤dt s i∧dt s i≤239)∧aW s (i+1) (if dt s i=224 then 160 else 128) (if dt s i=237 then 159 else 191)=true∧aW s (i+2) 128 191=true then
  (dt s i%16*4096+dt s (i+1)%64*64+dt s (i+2)%64,3)
 else if(240≤dt s i∧dt s i≤244)∧aW s (i+1) (if dt s i=240 then 144 else 128) (if dt s i=244 then 143 else 191)=true∧aW s (i+2) 128 191=true∧aW s (i+3) 128 191=true then
  (dt s i%8*262144+dt s (i+1)%64*4096+dt s (i+2)%64*64+dt s (i+3)%64,4)
 else(0,0)
theorem FI (s:ByteArray)(i:Nat)(w:World)(hi:i<s.size)(hs:s.size≤140737488355328)(h:dt s i<224):Calls prog 123 #[.string s,.int .i64 i] w fun e Z=>e=.returned (.tuple #[.int .i64 ((aM s i).1:Nat),.int .i64 ((aM s i).2:Nat)])∧w=Z:=by
 have hm:=fun a lo hi k w h0 h1 h2=>kz s a lo hi k w h0 h1 h2 (by omega);have HM:=oH hm;have l:=dA s i hi;have h3:(s[i]' hi).toNat<256:=(s[i]' hi).toNat_lt;clear hm;by_cases C:dt s i<128
 ·have o:aM s i=(dt s i,1):=by unfold aM;rw[ap C]
  rw[o];rw[l] at C h⊢;have R:=J2 o l;clear o l;go_enter func123,ntmps123;go_wp2;go_ret2;exact⟨rfl,rfl⟩
 by_cases Y:194≤dt s i;·(
 cases j:aW s (i+1) 128 191 with
 |true=>
  have I:i+1<s.size:=by unfold aW at j;simp only[gE,iH] at j;exact j.1.1
  have J:=dA s (i+1) I;have h4:(s[i+1]' I).toNat<256:=(s[i+1]' I).toNat_lt;have o:aM s i=(dt s i%32*64+dt s (i+1)%64,2):=by unfold aM;rw[ae C,ap ⟨⟨Y,by omega⟩,j⟩]
  rw[o];rw[l] at C h Y⊢;rw[J];have R:=J3 j l J;clear o l J j;go_enter func123,ntmps123;go_wp2_with (go_at_call 164;refine(HM.out _ _ _ (i+1) _ (by omega) (by omega) (by omega)).mono ?_;rintro e Z ⟨rfl,rfl⟩;rw[show aW s (i+1) (Int.toNat 128) (Int.toNat 191)=true from R.1]);go_ret2;exact⟨by simp,rfl⟩
 |false=>
  have o:aM s i=(0,0):=by unfold aM;rw[ae C,ae (by rw[j];simp),ae (by omega),ae (by omega)]
  rw[o];rw[l] at C h Y;have R:=J2 j l;clear o l j;go_enter func123,ntmps123;go_wp2_with (go_at_call 164;refine(HM.out _ _ _ (i+1) _ (by omega) (by omega) (by omega)).mono ?_;rintro e Z ⟨rfl,rfl⟩;rw[show aW s (i+1) (Int.toNat 128) (Int.toNat 191)=false from R.1]);go_ret2;exact⟨rfl,rfl⟩)
 have o:aM s i=(0,0):=by unfold aM;rw[ae C,ae (by omega),ae (by omega),ae (by omega)]
 rw[o];rw[l] at C h Y;have R:=oH l;clear o l;go_enter func123,ntmps123;go_wp2;go_ret2;exact⟨rfl,rfl⟩
end
end Go.Proofs.YtceloincoomjeaaGreatDoor
