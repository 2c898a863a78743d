/- Part 16 of the proof of CallsShallow (its last part says what is proved). No condition. -/
import Derived.Test.YtncdbjponknakaaGreatDoorK14
namespace Go.Proofs.YtncdbjponknakaaGreatDoor
set_option maxRecDepth 100000
set_option maxHeartbeats 8000000
open Go.RowKit Go.Proofs.Tryz
def eN (B:Nat)(wr:World)(o:Value)(L:List (List Int)):Prop:=
 ∃vs:List Value,wr.ownsRow B 45 1 o L.length vs∧∀(i:Nat) x,L[i]? =some x→∃c,vs[i]? =some c∧aK (fun b=>B≤b∧b<wr.heap.size∧o.ownBlock≠some b) wr c x
theorem eN.nil {B:Nat}{w:World}:eN B w (.slice none 0 0) []:=⟨[],⟨rfl,.inl ⟨rfl,rfl⟩⟩,fun i x j=>by simp at j⟩
theorem eN.keep {B:Nat}{wr l:World}{o:Value}{L:List (List Int)}(h:eN B wr o L)(k:aa (fun b=>B≤b∧b<wr.heap.size) wr l):eN B l o L:=by obtain⟨J,C,R⟩:=h;refine⟨J,be C k fun g Y=>aD C Y,fun i x Z=>?_⟩;obtain⟨c,hc,hE⟩:=R i x Z;exact⟨c,hc,ah.wide (fun b j=>⟨j.1,Nat.lt_of_lt_of_le j.2.1 k.size,j.2.2⟩) (ah.keep (k.mono fun b j=>⟨j.1,j.2.1⟩) hE)⟩
theorem eN.app {B:Nat}{l R:World}{o v2 c:Value}{L:List (List Int)}{row:List Int}{Y:List Value}
 (a8:∀(i:Nat) x,L[i]? =some x→∃c,Y[i]? =some c∧aK (fun b=>B≤b∧b<l.heap.size∧o.ownBlock≠some b) l c x) (Z:l.ownsRow B 45 1 o L.length Y)
 (hr:aK (fun b=>B≤b∧b<l.heap.size∧o.ownBlock≠some b) l c row)
 (C:R.ownsRow B 45 1 v2 (L.length+1) (Y++[c])) (a1:(l.alloc (.cells #[c] 45)).grownBy R o.ownBlock)
 (b0:v2.ownBlock=o.ownBlock∨v2.ownBlock=some (l.alloc (.cells #[c] 45)).heap.size):eN B R v2 (L++[row]):=by
 have k2:aa (fun b=>o.ownBlock≠some b) l R:=((aa.refl _ l).alloc _).grown a1 fun g hg=>.inl fun h=>h hg;have b2:l.heap.size+1≤R.heap.size:=by have:=a1.size;simpa using this
 have a6:∀b,b<l.heap.size→o.ownBlock≠some b→v2.ownBlock≠some b:=by
  intro b j ho;rcases b0 with h|h;·rw[h];exact ho
  rw[h];simp;omega
 have b1:Y.length=L.length:=by have:=Z.1;omega
 refine⟨Y++[c],by simpa using C,fun i x J=>?_⟩;by_cases hi:i<L.length
 ·rw[ma hi] at J
  obtain⟨c',hc,hE⟩:=a8 i x J;refine⟨c',by rw[ma (by omega)];exact hc,?_⟩;exact ah.wide (fun b j=>⟨j.1,by have:=j.2.1;omega,a6 b j.2.1 j.2.2⟩) (ah.keep (k2.mono fun b j=>j.2.2) hE)
 rw[kH (by omega)] at J;have a7:i-L.length=0:=by
  rcases Nat.eq_zero_or_pos (i-L.length) with h|h;·exact h
  rw[jz (by simp;omega)] at J;cases J
 rw[a7] at J;cases J;refine⟨c,by rw[kH (by omega),b1,a7];rfl,?_⟩;exact ah.wide (fun b j=>⟨j.1,by have:=j.2.1;omega,a6 b j.2.1 j.2.2⟩) (ah.keep (k2.mono fun b j=>j.2.2) hr)
theorem eN.rows {B:Nat}{w:World}{o:Value}{L:List (List Int)}(h:eN B w o L)(hl:L.length≤1048576):Rows (fun b=>B≤b) w o L:=by obtain⟨vs,j,l⟩:=h;refine Sl.of_own j (by omega) (fun g C=>(aD j C).1) fun i x J=>?_;obtain⟨c,R,Y⟩:=l i x J;exact⟨c,R,ah.wide (fun b Z=>Z.1) Y⟩
theorem pt {S:Nat→Prop}{w:World}{v:Value}{ll:List (List Bool)}(h:jE S w v ll):jE (fun b=>b<w.heap.size) w v ll:=by obtain⟨a,cap,hv,h1,h2,h3,h⟩:=h;refine⟨a,cap,hv,h1,h2,h3,fun i x hx=>?_⟩;obtain⟨b,off,c,e,hs,hc,a',l,J,R,Y,Z,h'⟩:=h i x hx;refine⟨b,off,c,e,jy w _ hc,hc,a',l,J,R,Y,Z,fun j y hy=>?_⟩;obtain⟨b2,o,c2,e2,a6,C,a1⟩:=h' j y hy;exact⟨b2,o,c2,e2,jy w _ C,C,a1⟩
theorem JD {w:World}{base:Nat}{e:TypeId}{size n c:Nat}{A:Option Addr}{xs:List Value}(h:w.ownsRow base e size (.slice A n c) n xs):n≤c∧c≤maxLen:=by
 rcases h.2 with ⟨j,l⟩|⟨g,cap,cur,j,_,_,l,o,_⟩;·cases j;exact⟨cf _,Nat.zero_le _⟩
 cases j;exact⟨l,o⟩
theorem Di {S:Nat→Prop}{w:World}{A:Option Addr}{n c:Nat}{l:List Int}(h:aK S w (.slice A n c) l):aK S w (.slice A n n) l:=by obtain⟨a,cap,j,o,C,J,h⟩:=h;injection j with R Y Z;subst R;subst Y;exact⟨_,_,rfl,cf _,fR o C,J,h⟩
structure ud (ll:List (List Int))(A:Option Addr)(c:Nat)(vb:Value)(xt xb g xs B:Nat)(w:World)(told:Nat→Bool)(o:Value)(L:List (List Int))(wr:World):Prop where
 tou:al wr xt 54 #[.slice A ll.length c]
 been:al wr xb 79 #[vb]
 told:al wr g 85 (az 256 told)
 same:al wr xs 84 #[.func (.func 25) #[] #[.pointer (some ⟨xb,0,none⟩)]]
 rows:jE (fun b=>b≠g∧b<B) wr vb (dB ll)
 lt:xt<B∧xb<B∧g<B∧xs<B
 ne:xt≠g∧xb≠g∧xs≠g
 low:w.heap.size≤g
 size:B≤wr.heap.size
 kept:aa (fun b=>b<w.heap.size) w wr
 out:eN B wr o L
theorem ud.env {ll:List (List Int)}{A:Option Addr}{c:Nat}{j:Value}{l C g xs B:Nat}{w:World}{told:Nat→Bool}{o:Value}{L:List (List Int)}{wr:World}(h:ud ll A c j l C g xs B w told o L wr):LW ll A c j l C g xs told wr:=
 ⟨h.tou,h.been,h.told,h.same,er.wide (fun _ J=>J.1) h.rows⟩
theorem ud.tell {ll:List (List Int)}{A:Option Addr}{c:Nat}{R:Value}{Y Z g xs B:Nat}{w:World}{told j:Nat→Bool}{o:Value}{L:List (List Int)}{wr C:World}(h:ud ll A c R Y Z g xs B w told o L wr)
 (k:aa (fun b=>b≠g∧b<wr.heap.size) wr C) (ht:al C g 85 (az 256 j)):ud ll A c R Y Z g xs B w j o L C:=by
 have J:=h.size;have hw:=h.kept.size
 exact⟨h.tou.kept k ⟨h.ne.1,by have:=h.lt.1;omega⟩,h.been.kept k ⟨h.ne.2.1,by have:=h.lt.2.1;omega⟩,ht,h.same.kept k ⟨h.ne.2.2,by have:=h.lt.2.2.2;omega⟩,
  er.keep (k.mono fun b l=>⟨l.1,by omega⟩) h.rows,h.lt,h.ne,h.low,fR J k.size,
  h.kept.trans (k.mono fun b l=>⟨by have:=h.low;omega,by omega⟩),h.out.keep (k.mono fun b l=>⟨by have:=h.lt.2.2.1;omega,l.2⟩)⟩
theorem ud.put {ll:List (List Int)}{A:Option Addr}{c:Nat}{l:Value}{C J g xs B:Nat}{w:World}{told:Nat→Bool}{o R:Value}{L Y:List (List Int)}{wr j:World}(h:ud ll A c l C J g xs B w told o L wr)
 (k:aa (fun b=>b<B) wr j) (ho:eN B j R Y):ud ll A c l C J g xs B w told R Y j:=by
 have Z:=h.low;have a1:=h.lt
 exact⟨h.tou.kept k h.lt.1,h.been.kept k h.lt.2.1,h.told.kept k h.lt.2.2.1,h.same.kept k h.lt.2.2.2,
  er.keep (k.mono fun b hb=>hb.2) h.rows,h.lt,h.ne,h.low,fR h.size k.size,h.kept.trans (k.mono fun b hb=>by omega),ho⟩
noncomputable def oB (ll:List (List Int))(told:Nat→Bool)(a k:Nat):Nat→Bool:=fun x=>told x||(decide (x<k)&&eB ll a x)
theorem JP (ll:List (List Int))(told:Nat→Bool)(a:Nat):oB ll told a 0=told:=by funext x;simp[oB]
theorem Hs {ll:List (List Int)}{told:Nat→Bool}{a k:Nat}(h:eB ll a k=false):oB ll told a (k+1)=oB ll told a k:=by
 funext x;unfold oB;by_cases e:x=k;·subst e;simp[h]
 have:(x<k+1)↔(x<k):=by omega
 simp[this]
theorem Em {ll:List (List Int)}{told:Nat→Bool}{a k:Nat}(h:eB ll a k=true):(az 256 (oB ll told a k)).setIfInBounds k (.bool true)=az 256 (oB ll told a (k+1)):=by
 refine dg (by simp[oB,h]) (fun j _ l=>?_);unfold oB;have:(j<k+1)↔(j<k):=by omega
 simp[this]
theorem sJ (S:Nat→Prop)(v:Value)(ll:List (List Int))(w:World)(hv:Rows S w v ll)(hR:aP ll):
 Calls prog 11 #[v] w fun e w'=>∃u B,e=.returned u∧aa All w w'∧w.heap.size≤B∧eN B w' u (bC ll)∧(bC ll).length≤256:=by
 have hl:ll.length≤256:=hR.2.1;have Y:=fun w1 (hk:aa All w w1)=>gt S v ll w1 (aq.keep hk.all hv);rw[bL hR] at Y;have b0:=fun w1 (hk:aa All w w1)=>rj S v ll w1 (aq.keep hk.all hv) hR;obtain⟨A,cap,rfl,h1,h2,i2,h⟩:=hv;obtain⟨i3,d9,e0,e4,e5⟩:=info_parts yw;obtain⟨i4,c0,c1,c2,c3⟩:=info_parts Qr;have I3:=J4 d9 e0 e4 e5;have b8:=J4 c0 c1 c2 c3;have HR:=J3 Y b0 hR;clear h h1 h2 i2 Y b0 hR d9 e0 e4 e5 c0 c1 c2 c3;go_enter func11,ntmps11;go_wp2_with fail;refine(HR.1 _ (kR.alloc _)).mono ?_;rintro e w1 ⟨rfl,c7⟩;have c8:al w1 w.heap.size 54 #[.slice A ll.length cap]:=(al.new _ _ _).kept c7 trivial;have e6:=c8.cell 0;simp only[gc] at e6;have c4:aa All w w1:=(kR.alloc _).trans c7;have HK:=J2 c4 c8;clear c7 c8 c4;go_wp2_with fail;refine(HR.2.1 _ HK.1).mono ?_;rintro e C ⟨vb,rfl,e7,e8⟩;have c5:=e8;obtain⟨Ab,cb,rfl,_⟩:=e8;have HB:=J2 e7 c5;clear e7 c5 e6;have e9:=Sw;go_wp2_with fail
 have h0:ud ll A cap (.slice Ab (dB ll).length cb) w.heap.size C.heap.size (C.heap.size+1+1) (C.heap.size+1) (C.heap.size+1+1+1) w (fun _=>false) (.slice none 0 0) []
  (((C.alloc (.cells #[.slice Ab (dB ll).length cb] 79)).alloc (.cells #[.func (.func 25) #[] #[.pointer (some ⟨C.heap.size,0,none⟩)]] 84)).alloc (.cells tY 85)):=by
  have a6:aa All C (((C.alloc (.cells #[.slice Ab (dB ll).length cb] 79)).alloc (.cells #[.func (.func 25) #[] #[.pointer (some ⟨C.heap.size,0,none⟩)]] 84)).alloc (.cells tY 85)):=((kR.alloc _).alloc _).alloc _;have e1:=HK.1.size;have e2:=HB.1.size;have e3:w.heap.size<w1.heap.size:=HK.2.lt
  exact⟨(HK.2.kept HB.1 trivial).kept a6 trivial,((al.new _ _ _).alloc _).alloc _,ac (by simp),(ac (by simp)).alloc _,
   er.wide (fun b hb=>by omega) (er.keep a6.all (pt HB.2)),by omega,by omega,by omega,by simp,((HK.1.trans HB.1).trans a6).all,eN.nil⟩
 have h7:=oH h0;clear h0 e9;rename_i c9;clear c9
 go_loopg [7] (ll.length+1) (fun gg o wr=>∃(m:Nat) (told:Nat→Bool) (L:List (List Int)),m=gg∧ph ll.length told<m∧L.length+ph ll.length told≤ll.length∧L++gm ll m told=bC ll∧
  ud ll A cap (.slice Ab (dB ll).length cb) w.heap.size C.heap.size (C.heap.size+1+1) (C.heap.size+1) (C.heap.size+1+1+1) w told o L wr)
 ·exact⟨ll.length+1,fun _=>false,[],rfl,Nat.lt_succ_of_le (qI _ _),by simpa using qI _ _,rfl,h7.out⟩
 clear h7;obtain⟨m,told,L,rfl,hm,hL,heq,hinv⟩:=hrel;have i5:=hinv.tou.cell 0;simp only[gc] at i5;have b1:=fun a ha=>DP ll A cap _ _ _ _ _ a told wr hinv.env ha hl;have HI:=J3 heq hinv b1;clear heq hinv b1;go_wp2_with fail;obtain⟨wo,rfl⟩:=eQ wr;go_loopg [8,21] ll.length (fun gg at_ i wr=>∃k:Nat,k≤ll.length∧gg=ll.length-k∧i=.int .i64 k∧at_=.int .i64 (-1)∧wo=wr∧∀a,a<k→dm ll told a=false);·exact⟨0,by omega,by omega,rfl,rfl,rfl,fun a ha=>by omega⟩
 obtain⟨k,hk,rfl,rfl,rfl,rfl,h8⟩:=hrel;have HN:=oH h8;clear h8;by_cases b9:k<ll.length;·(
 have l:=HI.2.2 k b9;cases hr:dm ll told k with
 |false=>
  rw[hr] at l;have HC:=J2 l hr;clear l hr;go_wp2_with (go_at_call 26;refine HC.1.mono ?_;rintro e w' ⟨rfl,rfl⟩);go_roundg (ll.length-(k+1))
  ·refine⟨k+1,by omega,rfl,by go_num,rfl,rfl,fun a ha=>?_⟩;by_cases e:a=k;·subst e;exact HC.2
   exact HN.out a (by omega)
  omega
 |true=>
  rw[hr] at l;have HC:=J2 l hr;clear l hr;have j5:decide ((k:Int)<0)=false:=by simp
  go_wp2_with (go_at_call 26;refine HC.1.mono ?_;rintro e w' ⟨rfl,rfl⟩);have hinv:=HI.2.1;have hB:=hinv.size;have j6:=hinv.low;clear hinv
  go_loopg [10,34] ll.length (fun gg o2 i wr=>∃j:Nat,j≤ll.length∧gg=ll.length-j∧i=.int .i64 j∧aa (fun b=>b≠C.heap.size+1+1∧b<wo.heap.size) wo wr∧al wr (C.heap.size+1+1) 85 (az 256 (oB ll told k j))∧
   wr.ownsRow wo.heap.size 3 1 o2 (qw ll k j).length (aI (qw ll k j)))
  ·exact⟨0,by omega,by omega,rfl,kR,by rw[JP];exact HI.2.1.told,by simp[aI,qw],.inl ⟨rfl,by simp[qw]⟩⟩
  obtain⟨j,hj,rfl,rfl,a7,a8,c6⟩:=hrel;have j8:=Jg ll k j;have hinv:=(HI.2.1).tell a7 a8;have b2:=hinv.env;have b3:=hinv.same.cell 0;simp only[gc] at b3;have HJ:=J4 a7 a8 c6 hinv;clear a7 a8 c6 hinv;by_cases h9:j<ll.length;·(
 have l:=vS _ ll _ _ k j wr b2.been b2.rows b9 h9 hl;clear b2;cases hs:eB ll k j with
 |false=>
  rw[hs] at l;have HS:=J2 l hs;clear l hs;go_wp2_with (go_at_call 25;refine HS.1.mono ?_;rintro e w' ⟨rfl,rfl⟩);go_roundg (ll.length-(j+1));·exact⟨j+1,by omega,rfl,by go_num,HJ.1,by rw[Hs HS.2];exact HJ.2.1,by rw[KZ HS.2];exact HJ.2.2.1⟩
  omega
 |true=>
  rw[hs] at l;have R:(wr.alloc (.cells #[.int .i64 j] 3)).ownsRow wo.heap.size 3 1 u10 (qw ll k j).length (aI (qw ll k j)):=be HJ.2.2.1 ((aa.refl All wr).alloc _) (fun _ _=>trivial);have HS:=J3 l hs R;have j9:=HJ.1.size;clear l hs R
  go_wp2_with (first
   |(go_at_call 25;refine HS.1.mono ?_;rintro e w' ⟨rfl,rfl⟩)
   |(at_builtin
     refine aR _ rfl (.tmp 41) (.tmp 43) 45 rfl wo.heap.size 3 i3 _ 1 8 underlying45 I3.1 I3.2.1 I3.2.2.1 I3.2.2.2 rfl (by decide) _ _ _ rfl HS.2.2 (some ⟨wr.heap.size,0,none⟩) 1 1 [.int .i64 j] rfl rfl ?_ ?_ (by unfold maxLen;omega) (by omega) (by simp;omega) ?_;·intro _;exact⟨_,_,rfl,fun j u hu=>by rw[cN,al.cell (al.new _ _ _)];simpa using hu⟩
     ·intro u hu;rw[cx.1 hu];rfl
     intro v3 w3 Z b4 b5;have a6:aa (fun b=>b<wo.heap.size) wr w3:=((aa.refl _ wr).alloc _).grown b4 fun g hg=>.inl fun h=>by have:=(aD HS.2.2 hg).1;omega
     have J:=HJ.2.1.kept a6 (by omega);have d7:=J.cell j;rw[bj (by omega)] at d7;have i6:=J.free j;have H3:=J3 Z a6 J;clear Z b4 b5 a6 J))
  go_roundg (ll.length-(j+1));·(
 have e:qw ll k (j+1)=qw ll k j++[(j:Int)]:=Jh HS.2.1;refine⟨j+1,by omega,rfl,by go_num,(HJ.1.trans (H3.2.1.mono fun b hb=>hb.2)).setCell (p:=⟨C.heap.size+1+1,j,none⟩) (.inl fun h=>h.1 rfl) _,?_,?_⟩;·rw[←Em HS.2.1];exact H3.2.2.set _ _
 rw[e];have h4:=H3.1
 have h5:(w3.setCell ⟨C.heap.size+1+1,j,none⟩ (.bool true)).ownsRow wo.heap.size 3 1 v3 ((qw ll k j).length+1) (aI (qw ll k j)++[.int .i64 j]):=
  be (S:=fun b=>wo.heap.size≤b) h4 (kR.setCell (p:=⟨C.heap.size+1+1,j,none⟩) (.inl fun h=>by have:wo.heap.size≤C.heap.size+1+1:=h;omega) _) fun g hg=>(aD h4 hg).1
 simpa [aI] using h5)
  omega)
  have i7:j=ll.length:=by omega
  subst i7;obtain⟨Ag,cg,rfl⟩:=aU HJ.2.2.1;have b6:=JD HJ.2.2.1;obtain⟨vs,a1,i0⟩:=HJ.2.2.2.out;have R:(wr.alloc (.cells #[.slice Ag (qw ll k ll.length).length (qw ll k ll.length).length] 45)).ownsRow (C.heap.size+1+1+1) 45 1 u7 L.length vs:=be a1 ((aa.refl All wr).alloc _) (fun _ _=>trivial);have hr:=jr (S:=fun b=>wo.heap.size≤b∧b<wr.heap.size) HJ.2.2.1 rfl (by omega) (fun g hg=>aD HJ.2.2.1 hg) (La hl);have HO:=J4 a1 i0 R hr;have j7:=HJ.2.2.2.size;have b7:=st Ag (qw ll k ll.length).length cg wr b6.1 (by have:=b6.2;unfold maxLen at this;omega);have j0:=oH b7;clear a1 i0 R hr b6 b7 b2 b3
  go_wp2_with (first
   |(go_at_call 27;refine j0.out.mono ?_;rintro e w' ⟨rfl,rfl⟩)
   |(at_builtin
     refine aR _ rfl (.tmp 48) (.tmp 51) 54 rfl (C.heap.size+1+1+1) 45 i4 _ 1 24 underlying54 b8.1 b8.2.1 b8.2.2.1 b8.2.2.2 rfl (by decide) _ _ _ rfl HO.2.2.1 (some ⟨wr.heap.size,0,none⟩) 1 1 [.slice Ag (qw ll k ll.length).length (qw ll k ll.length).length] rfl rfl ?_ ?_ (by unfold maxLen;omega) (by omega) (by simp;omega) ?_;·intro _;exact⟨_,_,rfl,fun j u hu=>by rw[cN,al.cell (al.new _ _ _)];simpa using hu⟩
     ·intro u hu;rw[cx.1 hu];rfl
     intro v4 w4 Z b4 b5))
  obtain⟨m',rfl⟩:∃m',m=m'+1:=⟨m-1,by omega⟩;go_roundg m';·(
 have j1:told k=false:=(gV.1 HC.2).1;have k0:=mr b9 j1;have d8:(List.range ll.length).find? (dm ll told)=some k:=by(
 rcases lD (n:=ll.length) (p:=dm ll told) with ⟨_,h⟩|⟨a,h1,h2,h3,h4⟩;·have h5:=HC.2;rw[h k b9] at h5;cases h5
 rcases Nat.lt_trichotomy a k with h5|h5|h5;·rw[HN.out a h5] at h3;cases h3
 ·rw[h1,h5]
 have h6:=HC.2;rw[h4 k h5] at h6;cases h6)
 have j2:∀b,wo.heap.size≤b→u7.ownBlock≠some b:=fun b hb e=>by obtain⟨k1,j3,_⟩:=HI.2.1.out;have:=(aD j3 e).2;omega
 have hr:aK (fun b=>C.heap.size+1+1+1≤b∧b<wr.heap.size∧u7.ownBlock≠some b) wr (.slice Ag (qw ll k ll.length).length (qw ll k ll.length).length) (nk ll k):=
  ah.wide (fun b hb=>⟨by have:=hb.1;omega,hb.2,j2 b hb.1⟩) (Di HO.2.2.2)
 have i1:eN (C.heap.size+1+1+1) w4 v4 (L++[nk ll k]):=eN.app HO.2.1 HO.1 hr Z b4 b5;have j4:aa (fun b=>b<C.heap.size+1+1+1) wr w4:=((aa.refl _ wr).alloc _).grown b4 fun g hg=>.inl fun h=>by have:=(aD HO.1 hg).1;omega
 refine⟨m',eC ll told k,L++[nk ll k],rfl,by omega,by rw[iQ];simp;omega,?_,HJ.2.2.2.put j4 i1⟩;rw[←HI.1,iv d8,jM];rfl)
  omega)
 go_wp2_with fail;go_ret;have hf:(List.range ll.length).find? (dm ll told)=none:=by rw[List.find?_eq_none];intro a ha;rw[HN.out a (by have:=fg.1 ha;omega)];simp
 have he:=HI.1;rw[jP hf,List.append_nil] at he;subst he;refine⟨_,_,rfl,⟨HI.2.1.kept.os,HI.2.1.kept.output,HI.2.1.kept.size,fun b hb _=>HI.2.1.kept.block b hb hb⟩,?_,HI.2.1.out,by omega⟩;have:=HI.2.1.low;omega
theorem Am (S:Nat→Prop)(v:Value)(ll:List (List Int))(w:World)(l:Rows S w v ll)(o:aP ll):
 Calls prog 11 #[v] w fun e j=>∃u,e=.returned u∧aa All w j∧Rows (fun b=>w.heap.size≤b) j u (bC ll):=by
 refine(sJ S v ll w l o).mono ?_;rintro e j ⟨u,B,rfl,C,J,R,Z⟩;exact⟨u,rfl,C,aq.wide (fun b Y=>fR J Y) (R.rows (by omega))⟩
theorem EW (S:Nat→Prop)(ll:List (List Int))(J:Value)(R Y a i:Nat)(w:World)(l:al w R 79 #[J])(o:al w Y 3 #[.int .i64 i])(Z:jE S w J (dB ll))(ha:a<ll.length)(hi:i<ll.length)(_:ll.length≤256):
 Calls prog 23 #[.int .i64 a,.pointer (some ⟨R,0,none⟩),.pointer (some ⟨Y,0,none⟩)] w fun e w'=>e=.returned (.bool (ay ll a i))∧∃n,w'=w.drewN n:=by
 have hc:=l.cell 0;have C:=o.cell 0;have j:=Z;obtain⟨A,cap,rfl,_⟩:=Z;rw[gU] at j hc;obtain⟨b1,o1,b2,o2,c2,rfl,_,h1,a1,_,h2⟩:=io j ha hi;simp only[gc] at hc C;clear j l o;generalize ay ll a i=p at*;go_enter func23,ntmps23;go_wp2_with fail;go_quiet (fail);go_wp2;go_ret;exact⟨rfl,_,rfl⟩
noncomputable def vj (ll:List (List Int))(row:List Int)(i:Nat):Int:=if row.any (fun x=>ay ll x.toNat i) then(row.findIdx (fun x=>ay ll x.toNat i):Int) else-1
theorem Df (S T:Nat→Prop)(ll:List (List Int))(vb v:Value)(row:List Int)(xb xi i:Nat)(w:World)(Z:al w xb 79 #[vb])(a1:al w xi 3 #[.int .i64 i])(hv:jE S w vb (dB ll))(hr:aK T w v row)
 (R:∀x∈row,∃n:Nat,x=n∧n<ll.length) (a8:row.length≤256) (hi:i<ll.length) (hl:ll.length≤256):
 Calls prog 43 #[v,.func (.func 23) #[] #[.pointer (some ⟨xb,0,none⟩),.pointer (some ⟨xi,0,none⟩)]] w fun e w'=>e=.returned (.int .i64 (vj ll row i))∧∃n,w'=w.drewN n:=by
 have l:=fun a (ha:a<ll.length) n=>EW S ll vb xb xi a i (w.drewN n) Z a1 hv ha hi hl;obtain⟨a,cap,rfl,h1,h2,_,h⟩:=hr;have H:=J3 h R l;clear h R l Z a1 hv;go_enter func43,ntmps43;go_wp2;go_loopg [8] row.length (fun g x wr=>∃k n:Nat,k≤row.length∧g=row.length-k∧x=.int .i64 k∧wr=w.drewN n∧∀y∈row.take k,ay ll y.toNat i=false);·exact⟨0,0,by omega,by omega,rfl,rfl,by simp⟩
 obtain⟨k,n,hk,rfl,rfl,rfl,o⟩:=hrel;have HN:=oH o;clear o;by_cases C:k<row.length;·(
 obtain⟨b,off,c,rfl,hs,hc,rfl,hw⟩:=H.1 k row[k] (lG C);obtain⟨j,hj,a6⟩:=H.2.1 row[k] (eL C);have l:=H.2.2 j a6 n;have HJ:=oH hj;rw[hj] at hc;clear hj;cases J:ay ll j i with
 |true=>
  rw[J] at l;have HC:=J2 l J;clear l J;go_wp2_with (go_at_call 23;refine HC.1.mono ?_;rintro e w' ⟨rfl,n',rfl⟩);go_ret;refine⟨?_,_,rfl⟩;have J:ay ll (row[k]).toNat i=true:=by rw[HJ.out];exact HC.2
  have h1:row.any (fun x=>ay ll x.toNat i)=true:=mW.2 ⟨_,eL C,J⟩;have h2:row.findIdx (fun x=>ay ll x.toNat i)=k:=by rw[List.findIdx_eq C];refine⟨J,fun m hm=>?_⟩;exact HN.out _ (List.mem_take_iff_getElem.2 ⟨m,by omega,rfl⟩)
  unfold vj;rw[ap h1,h2];rfl
 |false=>
  rw[J] at l;have HC:=J2 l J;clear l J;go_wp2_with (go_at_call 23;refine HC.1.mono ?_;rintro e w' ⟨rfl,n',rfl⟩);go_roundg (row.length-(k+1))
  ·refine⟨k+1,n+n',by omega,rfl,by go_num,rfl,fun y Y=>?_⟩;rw[cU,lG C,HJ.out] at Y;rcases eD.1 Y with Y|Y;·exact HN.out y Y
   rw[show y=(j:Int) by simpa using Y];exact HC.2
  omega)
 have a7:k=row.length:=by omega
 go_wp2;go_ret;refine⟨?_,_,rfl⟩;have o:=HN.out;rw[a7,dZ] at o;have h1:row.any (fun x=>ay ll x.toNat i)=false:=List.any_eq_false.2 fun x hx=>by rw[o x hx];simp
 unfold vj;rw[h1];rfl
theorem wS (ll:List (List Int))(row:List Int)(i:Nat):decide (0≤vj ll row i)=row.any (fun x=>ay ll x.toNat i):=by unfold vj;cases row.any (fun x=>ay ll x.toNat i)<;>simp
theorem Ji (S T:Nat→Prop)(ll:List (List Int))(R v:Value)(row:List Int)(Y Z i:Nat)(w:World)(o:al w Y 79 #[R])(C:al w Z 3 #[.int .i64 i])(hv:jE S w R (dB ll))(hr:aK T w v row)
 (l:∀x∈row,∃n:Nat,x=n∧n<ll.length) (J:row.length≤256) (hi:i<ll.length) (hl:ll.length≤256):
 Calls prog 22 #[v,.func (.func 23) #[] #[.pointer (some ⟨Y,0,none⟩),.pointer (some ⟨Z,0,none⟩)]] w fun e w'=>e=.returned (.bool (row.any (fun x=>ay ll x.toNat i)))∧∃n,w'=w.drewN n:=by
 have j:=Df S T ll R v row Y Z i w o C hv hr l J hi hl;have hn:=wS ll row i;have H:=oH j;have HN:=oH hn;obtain⟨a,cap,rfl,h1,h2,_,h⟩:=hr;clear h l j o C hv hn;generalize vj ll row i=y at*;go_enter func22,ntmps22;go_wp2_with (go_at_call 43;refine H.out.mono ?_;rintro e w' ⟨rfl,n',rfl⟩);go_ret;exact⟨by rw[←HN.out];rfl,_,rfl⟩
def lm (n k:Nat)(cs cs':Array Value):Prop:=cs'.size=cs.size∧∀m,m<n→cs'[m]? =if m<k∨n≤m+k then cs[n-1-m]? else cs[m]?
theorem lm.step {n k:Nat}{cs j:Array Value}{x y:Value}(h:lm n k cs j)(hk:k+k+1<n)(hn:n≤cs.size)(Y:j[n-1-k]? =some x)(Z:j[k]? =some y):
 lm n (k+1) cs ((j.setIfInBounds k x).setIfInBounds (n-1-k) y):=by
 refine⟨by simp[h.1],fun m hm=>?_⟩;have l:=h.2 (n-1-k) (by omega);rw[ae (by omega),Y] at l;have o:=h.2 k (by omega);rw[ae (by omega),Z] at o;rw[Array.getElem?_setIfInBounds,Array.getElem?_setIfInBounds];simp only[Array.size_setIfInBounds,h.1];by_cases C:n-1-k=m
 ·rw[ap C,ap (by omega),ap (by omega),o]
  congr 1;omega
 rw[ae C];by_cases J:k=m
 ·rw[ap J,ap (by omega),ap (by omega),l]
  congr 1;omega
 rw[ae J,h.2 m hm];by_cases R:m<k∨n≤m+k;·rw[ap R,ap (by omega)]
 rw[ae R,ae (by omega)]
theorem lm.mid {n k:Nat}{cs j:Array Value}(h:lm n k cs j){m:Nat}(l:k≤m)(o:m+k<n):j[m]? =cs[m]?:=by rw[h.2 m (by omega),ae (by omega)]
theorem lm.full {n k:Nat}{cs j:Array Value}(h:lm n k cs j)(l:n≤k+k+1)(m:Nat)(hm:m<n):j[m]? =cs[n-1-m]?:=by
 rw[h.2 m hm];split;·rfl
 congr 1;omega
theorem ze (g n c:Nat)(t:TypeId)(cs:Array Value)(w:World)(hb:al w g t cs)(hn:n≤cs.size)(h1:1≤n)(h2:n≤256)(_:n≤c)(a1:∀m,m<n→∃A l d,cs[m]? =some (.slice A l d)):
 Calls prog 24 #[.slice (some ⟨g,0,none⟩) n c] w fun e w'=>e=.returned (.tuple #[])∧aa (fun b=>b≠g) w w'∧∃J,al w' g t J∧∀m,m<n→J[m]? =cs[n-1-m]?:=by
 have HB:=oH hb;have HS:=oH a1;clear hb a1;have hl:n≤9223372036854775807:=by omega
 go_enter func24,ntmps24;go_wp2;go_loopg [2,3] n (fun gg i j wr=>∃(k:Nat) (J:Array Value),k≤n∧gg=n-k∧i=.int .i64 k∧j=.int .i64 ((n:Int)-1-k)∧aa (fun b=>b≠g) w wr∧al wr g t J∧lm n k cs J);·exact⟨0,cs,by omega,by omega,rfl,by go_num,kR,HB.out,rfl,fun m hm=>by rw[ae (by omega)]⟩
 obtain⟨k,J,hk,rfl,rfl,rfl,C,o,R⟩:=hrel;by_cases a6:k+k+1<n;·(
 have a7:J.size=cs.size:=R.1;obtain⟨A1,l1,d1,Y⟩:=HS.out (n-1-k) (by omega);obtain⟨A2,l2,d2,Z⟩:=HS.out k (by omega);rw[←R.mid (by omega) (by omega)] at Y;rw[←R.mid (by omega) (by omega)] at Z;have e:((n:Int)-1-k)=((n-1-k:Nat):Int):=by omega
 obtain⟨j,hj⟩:=eQ (n-1-k);rw[e,←hj];rw[←hj] at Y;have c1:=o.cell j;have c2:=o.cell k;have f1:=o.free j;have f2:=o.free k;rw[Y] at c1;rw[Z] at c2;have a8:k<j:=by omega
 have b0:j<n:=by omega
 have HT:=J6 o R Y Z hj C;clear o R Y Z C hj e;go_wp2_with fail
 go_region
 go_wp2;go_roundg (n-(k+1))
 ·obtain⟨o,R,Y,Z,hj,C⟩:=HT.out;subst hj;refine⟨k+1,(J.setIfInBounds k (.slice A1 l1 d1)).setIfInBounds (n-1-k) (.slice A2 l2 d2),by omega,rfl,by go_num,by go_num,?_,?_,R.step a6 hn Y Z⟩;·exact((C.setCell (.inl fun h=>h rfl) _).setCell (.inl fun h=>h rfl) _).drew
  exact((o.set k _).set (n-1-k) _).drew
 omega)
 go_wp2
 go_end0
 exact⟨rfl,C,J,o,fun m hm=>R.full (by omega) m hm⟩
section
section
variable {ll:List (List Int)}
def LU (ll:List (List Int))(k:Nat):Prop:=∃j,dH ll k j∧aQ ll j k
def mD (ll:List (List Int))(s i:Nat):Prop:=∃k,k<ll.length∧aQ ll s k∧LU ll k∧aQ ll k i
inductive rt (ll:List (List Int)) (s:Nat):Nat→Nat→Prop
 |one:rt ll s 1 s
 |step {m b c:Nat}:rt ll s m b→dH ll b c→rt ll s (m+1) c
theorem rt.reach {s m i:Nat}(h:rt ll s m i):aQ ll s i:=by
 induction h with
 |one=>exact .refl
 |step _ e j=>exact .step j e
theorem rt.pos {s m i:Nat}(h:rt ll s m i):1≤m:=by cases h<;>omega
theorem By {s i:Nat}(h:aQ ll s i):∃m,rt ll s m i:=by
 induction h with
 |refl=>exact⟨1,.one⟩
 |step _ e j=>obtain⟨m,hm⟩:=j;exact⟨m+1,.step hm e⟩
theorem mD.on {s i j:Nat}(h:mD ll s i)(k:aQ ll i j):mD ll s j:=by obtain⟨x,l,o,C,J⟩:=h;exact⟨x,l,o,C,J.trans k⟩
theorem mD.reach {s i:Nat}(h:mD ll s i):aQ ll s i:=by obtain⟨x,o,j,C,l⟩:=h;exact j.trans l
theorem sf {s i j:Nat}(hi:i<ll.length)(h:aQ ll s i)(e:dH ll i j)(k:aQ ll j i):mD ll s i:=⟨i,hi,h,⟨j,e,k⟩,.refl⟩
theorem BM (a:Nat):∀n,oe ll n a≤n
 |0=>cf _
 |n+1=>by have:=BM a n;unfold oe;split<;>omega
theorem Fl {x:Nat}:∀n,x<n→0<oe ll n x:=by
 intro n;induction n with
 |zero=>intro h;omega
 |succ n j=>
  intro h;unfold oe;by_cases e:x=n;·subst e;rw[lf];simp
  have:=j (by omega);omega
def mN (ll:List (List Int)):Prop:=∀a b,a<ll.length→dH ll a b→b<ll.length
theorem gO {s i:Nat}(j:mN ll)(l:s<ll.length)(h:aQ ll s i):i<ll.length:=by
 induction h with
 |refl=>exact l
 |step _ e o=>exact j _ _ o e
theorem JU {s:Nat}(o:mN ll)(C:s<ll.length){m i:Nat}(h:rt ll s m i)(J:¬mD ll s i):oe ll ll.length i+m≤oe ll ll.length s+1:=by
 induction h with
 |one=>omega
 | @step m b c h e R=>
   have j:¬mD ll s b:=fun x=>J (x.on (.step .refl e));have l:=gO o C h.reach;have Y:ay ll b c=true:=aY.2 (.step .refl e);have Z:ay ll c b=false:=by(
 cases hr:ay ll c b with
 |false=>rfl
 |true=>exact absurd (sf l h.reach e (aY.1 hr)) j)
   have:=wC Y Z ll.length l;have:=R j;omega
theorem tS {s:Nat}(j:mN ll)(l:s<ll.length){m i:Nat}(h:rt ll s m i)(o:¬mD ll s i):m≤ll.length:=by have C:=JU j l h o;have J:=BM (ll:=ll) s ll.length;have R:=Fl (ll:=ll) ll.length (gO j l h.reach);omega
def kN (ll:List (List Int))(s i:Nat)(v:Int):Prop:=
 (mD ll s i→v= -1)∧(¬aQ ll s i→v=0)∧(aQ ll s i→¬mD ll s i→∃m:Nat,v=m∧rt ll s m i∧∀m',rt ll s m' i→m'≤m)
theorem wI {s i:Nat}{v u:Int}(h:kN ll s i v)(k:kN ll s i u):v=u:=by
 by_cases j:mD ll s i;·rw[h.1 j,k.1 j]
 by_cases l:aQ ll s i;·obtain⟨m,rfl,o,C⟩:=h.2.2 l j;obtain⟨Y,rfl,J,R⟩:=k.2.2 l j;have:=C _ J;have:=R _ o;omega
 rw[h.2.1 l,k.2.1 l]
theorem Lh {p:Nat→Prop}(n:Nat)(l:∀m,p m→m≤n)(h:∃m,p m):∃m,p m∧∀j,p j→j≤m:=by
 induction n with
 |zero=>obtain⟨m,hm⟩:=h;exact⟨m,hm,fun j h'=>by have:=l j h';omega⟩
 |succ n C=>
  by_cases o:p (n+1);·exact⟨n+1,o,l⟩
  exact C fun m hm=>by have:=l m hm;have:m≠n+1:=fun e=>o (e▸hm);omega
theorem FB {s:Nat}(o:mN ll)(C:s<ll.length)(i:Nat):∃v,kN ll s i v:=by
 by_cases j:mD ll s i;·exact⟨-1,fun _=>rfl,fun h=>absurd j.reach h,fun _ h=>absurd j h⟩
 by_cases l:aQ ll s i
 ·obtain⟨m,J,R⟩:=Lh ll.length (fun m (hm:rt ll s m i)=>tS o C hm j) (By l)
  exact⟨m,fun h=>absurd h j,fun h=>absurd l h,fun _ _=>⟨m,rfl,J,R⟩⟩
 exact⟨0,fun h=>absurd h j,fun _=>rfl,fun h=>absurd h l⟩
open Classical in
noncomputable def gy (ll:List (List Int))(s i:Nat):Int:=if h:∃v,kN ll s i v then Classical.choose h else 0
theorem yg {s i:Nat}(h:∃v,kN ll s i v):kN ll s i (gy ll s i):=by unfold gy;rw[dif_pos h];exact Classical.choose_spec h
theorem nh {s i:Nat}{v:Int}(h:kN ll s i v):gy ll s i=v:=wI (yg ⟨v,h⟩) h
def KF (ll:List (List Int))(told:Nat→Bool):Prop:=∀x y,y<ll.length→told x=true→aQ ll x y→told y=true
theorem Eh {told:Nat→Bool}{a:Nat}(h:KF ll told)(J:dm ll told a=true):KF ll (eC ll told a):=by
 intro x y o j l;unfold eC at j⊢;simp only[Bool.or_eq_true,gE,iH] at j⊢;rcases j with j|⟨_,j⟩;·exact .inl (h x y o j l)
 rcases (gV.1 J).2 y o (gr (et.1 j).1 (aY.2 l)) with C|C;·exact .inl C
 exact .inr ⟨o,C⟩
theorem kx {a:Nat}{x:Int}:x∈nk ll a↔∃n:Nat,x=n∧n<ll.length∧eB ll a n=true:=by
 simp only[nk,Al,dr,List.mem_filter,fg];constructor
 ·rintro⟨n,⟨j,l⟩,rfl⟩
  exact⟨n,rfl,j,l⟩
 rintro⟨n,rfl,j,l⟩;exact⟨n,⟨j,l⟩,rfl⟩
theorem me (m:Nat):∀told,ph ll.length told<m→∀x,x<ll.length→told x=true∨∃g∈gm ll m told,(x:Int)∈g:=by
 induction m with
 |zero=>intro told h;omega
 |succ m C=>
  intro told hm x j;cases o:told x with
  |true=>exact .inl rfl
  |false=>
   right;obtain⟨a,J,R,Y,_⟩:=AU j o;rw[iv J];have Z:=(gV.1 Y).1;have hu:=mr R Z;rcases C (eC ll told a) (by omega) x j with h|⟨g,hg,l⟩;·unfold eC at h;simp only[o,Bool.false_or,gE,iH] at h;exact⟨_,List.mem_cons_self,kx.2 ⟨x,rfl,j,h.2⟩⟩
   exact⟨g,List.mem_cons_of_mem _ hg,l⟩
theorem wR (m:Nat):∀told,ph ll.length told<m→KF ll told→ET ll told→∀l g J,gm ll m told=l++g::J→∀i p:Nat,(i:Int)∈g→p<ll.length→aQ ll p i→∃g'∈g::J,(p:Int)∈g':=by
 induction m with
 |zero=>intro told h;omega
 |succ m ih=>
  intro told hm o hw l g J he i p hi Z C;rcases lD (n:=ll.length) (p:=dm ll told) with ⟨R,_⟩|⟨a,R,ha,hr,_⟩
  ·rw[jP R] at he
   cases l<;>cases he
  have j:=me (m+1) told hm p Z;rw[iv R] at he j;have hn:=(gV.1 hr).1;have hu:=mr ha hn;cases l with
  |nil=>
   rw[he] at j;injection he with h1 h2;subst h1;rcases j with h|h
   ·obtain⟨n,a1,Y,hs⟩:=kx.1 hi;obtain rfl:i=n:=by omega
    have ht:=o p i Y h C;have:=hw i a ha ht (Bd hs);rw[hn] at this;cases this
   exact h
  |cons g0 l=>injection he with h1 h2;exact ih _ (by omega) (Eh o hr) (Bz hw) l g J h2 i p hi Z C
theorem wQ (m:Nat):∀told,∀g∈gm ll m told,∀x∈g,∃n:Nat,x=n∧n<ll.length:=by
 induction m with
 |zero=>intro told g j;cases j
 |succ m C=>
  intro told g j x o;rcases lD (n:=ll.length) (p:=dm ll told) with ⟨l,_⟩|⟨a,l,_⟩;·rw[jP l] at j;cases j
  rw[iv l] at j;rcases fX.1 j with rfl|j
  ·obtain⟨n,J,R,_⟩:=kx.1 o
   exact⟨n,J,R⟩
  exact C _ g j x o
theorem yt (m:Nat):∀told,∀g∈gm ll m told,∀x y:Nat,(x:Int)∈g→(y:Int)∈g→aQ ll x y:=by
 induction m with
 |zero=>intro told g j;cases j
 |succ m J=>
  intro told g j x y o C;rcases lD (n:=ll.length) (p:=dm ll told) with ⟨l,_⟩|⟨a,l,_⟩;·rw[jP l] at j;cases j
  rw[iv l] at j;rcases fX.1 j with rfl|j
  ·obtain⟨n,h1,h2,R⟩:=kx.1 o;obtain⟨Y,k1,k2,Z⟩:=kx.1 C;obtain rfl:x=n:=by omega
   obtain rfl:y=Y:=by omega
   exact aY.1 (gr (et.1 R).2 (et.1 Z).1)
  exact J _ g j x y o C
def jJ (ll:List (List Int))(s:Nat)(done:Nat→Prop)(out:Nat→Int):Prop:=
 ∀j,j<ll.length→(mD ll s j→out j= -1)∧(¬mD ll s j→0≤out j∧(out j=0∨rt ll s (out j).toNat j)∧(j=s→1≤out j)∧
  ∀p,done p→dH ll p j→∀m,rt ll s m p→(m:Int)+1≤out j)
theorem uW {s:Nat}{done:Nat→Prop}{out:Nat→Int}(h:jJ ll s done out){i:Nat}(hi:i<ll.length)(j:¬mD ll s i)(l:∀p,aQ ll s p→dH ll p i→done p):∀m,rt ll s m i→(m:Int)≤out i:=by
 intro m hm;obtain⟨J,R,o,C⟩:=(h i hi).2 j;cases hm with
 |one=>exact o rfl
 | @step m b _ hw e=>exact C b (l b hw.reach e) e m hw
theorem Fy {s:Nat}{out:Nat→Int}(h:jJ ll s (fun _=>True) out){i:Nat}(hi:i<ll.length):kN ll s i (out i):=by
 refine⟨(h i hi).1,fun l=>?_,fun l o=>?_⟩
 ·have o:¬mD ll s i:=fun x=>l x.reach
  rcases ((h i hi).2 o).2.1 with j|j;·exact j
  exact absurd j.reach l
 have J:=uW h hi o (fun _ _ _=>trivial);obtain⟨Y,j,_⟩:=(h i hi).2 o;obtain⟨m,hm⟩:=By l;have:=J m hm;have:=hm.pos;rcases j with j|j;·omega
 exact⟨(out i).toNat,by omega,j,fun R C=>by have:=J R C;omega⟩
end
end
end Go.Proofs.YtncdbjponknakaaGreatDoor
