/- Part 19 of the proof of CallsTo (its last part says what is proved). No condition. -/
import Derived.Test.YtceloincoomjeaaGreatDoorK17
namespace Go.Proofs.YtceloincoomjeaaGreatDoor
set_option maxRecDepth 100000
set_option maxHeartbeats 8000000
open Go.RowKit Go.Proofs.Tryz
def eN (B:Nat)(wr:World)(o:Value)(L:List (List Int)):Prop:=
 ∃vs:List Value,wr.ownsRow B 50 1 o L.length vs∧∀(i:Nat) x,L[i]? =some x→∃c,vs[i]? =some c∧aK (fun b=>B≤b∧b<wr.heap.size∧o.ownBlock≠some b) wr c x
theorem eN.nil {B:Nat}{w:World}:eN B w (.slice none 0 0) []:=⟨[],⟨rfl,.inl ⟨rfl,rfl⟩⟩,fun i x j=>by simp at j⟩
theorem eN.keep {B:Nat}{wr l:World}{o:Value}{L:List (List Int)}(h:eN B wr o L)(k:aa (fun b=>B≤b∧b<wr.heap.size) wr l):eN B l o L:=by obtain⟨I,C,J⟩:=h;refine⟨I,be C k fun g R=>aD C R,fun i x Y=>?_⟩;obtain⟨c,Z,hE⟩:=J i x Y;exact⟨c,Z,ah.wide (fun b j=>⟨j.1,Nat.lt_of_lt_of_le j.2.1 k.size,j.2.2⟩) (ah.keep (k.mono fun b j=>⟨j.1,j.2.1⟩) hE)⟩
theorem eN.app {B:Nat}{l J:World}{o v2 c:Value}{L:List (List Int)}{row:List Int}{R:List Value}
 (a7:∀(i:Nat) x,L[i]? =some x→∃c,R[i]? =some c∧aK (fun b=>B≤b∧b<l.heap.size∧o.ownBlock≠some b) l c x) (Y:l.ownsRow B 50 1 o L.length R)
 (hr:aK (fun b=>B≤b∧b<l.heap.size∧o.ownBlock≠some b) l c row)
 (C:J.ownsRow B 50 1 v2 (L.length+1) (R++[c])) (Z:(l.alloc (.cells #[c] 50)).grownBy J o.ownBlock)
 (a8:v2.ownBlock=o.ownBlock∨v2.ownBlock=some (l.alloc (.cells #[c] 50)).heap.size):eN B J v2 (L++[row]):=by
 have k2:aa (fun b=>o.ownBlock≠some b) l J:=((aa.refl _ l).alloc _).grown Z fun g hg=>.inl fun h=>h hg;have b1:l.heap.size+1≤J.heap.size:=by have:=Z.size;simpa using this
 have a1:∀b,b<l.heap.size→o.ownBlock≠some b→v2.ownBlock≠some b:=by
  intro b j ho;rcases a8 with h|h;·rw[h];exact ho
  rw[h];simp;omega
 have b0:R.length=L.length:=by have:=Y.1;omega
 refine⟨R++[c],by simpa using C,fun i x I=>?_⟩;by_cases hi:i<L.length
 ·rw[ma hi] at I
  obtain⟨c',hc,hE⟩:=a7 i x I;refine⟨c',by rw[ma (by omega)];exact hc,?_⟩;exact ah.wide (fun b j=>⟨j.1,by have:=j.2.1;omega,a1 b j.2.1 j.2.2⟩) (ah.keep (k2.mono fun b j=>j.2.2) hE)
 rw[kH (by omega)] at I;have a6:i-L.length=0:=by
  rcases Nat.eq_zero_or_pos (i-L.length) with h|h;·exact h
  rw[jz (by simp;omega)] at I;cases I
 rw[a6] at I;cases I;refine⟨c,by rw[kH (by omega),b0,a6];rfl,?_⟩;exact ah.wide (fun b j=>⟨j.1,by have:=j.2.1;omega,a1 b j.2.1 j.2.2⟩) (ah.keep (k2.mono fun b j=>j.2.2) hr)
theorem eN.rows {B:Nat}{w:World}{o:Value}{L:List (List Int)}(h:eN B w o L)(Z:L.length≤1048576):Rows (fun b=>B≤b) w o L:=by obtain⟨vs,j,l⟩:=h;refine Sl.of_own j (by omega) (fun g C=>(aD j C).1) fun i x I=>?_;obtain⟨c,J,R⟩:=l i x I;exact⟨c,J,ah.wide (fun b Y=>Y.1) R⟩
theorem pt {S:Nat→Prop}{w:World}{v:Value}{ll:List (List Bool)}(h:jE S w v ll):jE (fun b=>b<w.heap.size) w v ll:=by obtain⟨a,cap,hv,h1,h2,h3,h⟩:=h;refine⟨a,cap,hv,h1,h2,h3,fun i x hx=>?_⟩;obtain⟨b,off,c,e,hs,hc,a',l,I,J,R,Y,h'⟩:=h i x hx;refine⟨b,off,c,e,jy w _ hc,hc,a',l,I,J,R,Y,fun j y hy=>?_⟩;obtain⟨b2,o,c2,e2,a1,C,Z⟩:=h' j y hy;exact⟨b2,o,c2,e2,jy w _ C,C,Z⟩
theorem JD {w:World}{base:Nat}{e:TypeId}{size n c:Nat}{A:Option Addr}{xs:List Value}(h:w.ownsRow base e size (.slice A n c) n xs):n≤c∧c≤maxLen:=by
 rcases h.2 with ⟨j,l⟩|⟨g,cap,cur,j,_,_,l,o,_⟩;·cases j;exact⟨cf _,Nat.zero_le _⟩
 cases j;exact⟨l,o⟩
theorem Di {S:Nat→Prop}{w:World}{A:Option Addr}{n c:Nat}{l:List Int}(h:aK S w (.slice A n c) l):aK S w (.slice A n n) l:=by obtain⟨a,cap,j,o,C,I,h⟩:=h;injection j with J R Y;subst J;subst R;exact⟨_,_,rfl,cf _,fR o C,I,h⟩
structure ud (ll:List (List Int))(A:Option Addr)(c:Nat)(vb:Value)(xt xb g xs B:Nat)(w:World)(told:Nat→Bool)(o:Value)(L:List (List Int))(wr:World):Prop where
 tou:al wr xt 32 #[.slice A ll.length c]
 been:al wr xb 61 #[vb]
 told:al wr g 69 (az 256 told)
 same:al wr xs 68 #[.func (.func 28) #[] #[.pointer (some ⟨xb,0,none⟩)]]
 rows:jE (fun b=>b≠g∧b<B) wr vb (dB ll)
 lt:xt<B∧xb<B∧g<B∧xs<B
 ne:xt≠g∧xb≠g∧xs≠g
 low:w.heap.size≤g
 size:B≤wr.heap.size
 kept:aa (fun b=>b<w.heap.size) w wr
 out:eN B wr o L
theorem ud.env {ll:List (List Int)}{A:Option Addr}{c:Nat}{j:Value}{l C g xs B:Nat}{w:World}{told:Nat→Bool}{o:Value}{L:List (List Int)}{wr:World}(h:ud ll A c j l C g xs B w told o L wr):LW ll A c j l C g xs told wr:=
 ⟨h.tou,h.been,h.told,h.same,er.wide (fun _ I=>I.1) h.rows⟩
theorem ud.tell {ll:List (List Int)}{A:Option Addr}{c:Nat}{J:Value}{R Y g xs B:Nat}{w:World}{told j:Nat→Bool}{o:Value}{L:List (List Int)}{wr C:World}(h:ud ll A c J R Y g xs B w told o L wr)
 (k:aa (fun b=>b≠g∧b<wr.heap.size) wr C) (Z:al C g 69 (az 256 j)):ud ll A c J R Y g xs B w j o L C:=by
 have I:=h.size;have hw:=h.kept.size
 exact⟨h.tou.kept k ⟨h.ne.1,by have:=h.lt.1;omega⟩,h.been.kept k ⟨h.ne.2.1,by have:=h.lt.2.1;omega⟩,Z,h.same.kept k ⟨h.ne.2.2,by have:=h.lt.2.2.2;omega⟩,
  er.keep (k.mono fun b l=>⟨l.1,by omega⟩) h.rows,h.lt,h.ne,h.low,fR I k.size,
  h.kept.trans (k.mono fun b l=>⟨by have:=h.low;omega,by omega⟩),h.out.keep (k.mono fun b l=>⟨by have:=h.lt.2.2.1;omega,l.2⟩)⟩
theorem ud.put {ll:List (List Int)}{A:Option Addr}{c:Nat}{l:Value}{C I g xs B:Nat}{w:World}{told:Nat→Bool}{o J:Value}{L R:List (List Int)}{wr j:World}(h:ud ll A c l C I g xs B w told o L wr)
 (k:aa (fun b=>b<B) wr j) (ho:eN B j J R):ud ll A c l C I g xs B w told J R j:=by
 have Y:=h.low;have a1:=h.lt
 exact⟨h.tou.kept k h.lt.1,h.been.kept k h.lt.2.1,h.told.kept k h.lt.2.2.1,h.same.kept k h.lt.2.2.2,
  er.keep (k.mono fun b Z=>Z.2) h.rows,h.lt,h.ne,h.low,fR h.size k.size,h.kept.trans (k.mono fun b Z=>by omega),ho⟩
noncomputable def oB (ll:List (List Int))(told:Nat→Bool)(a k:Nat):Nat→Bool:=fun x=>told x||(decide (x<k)&&eB ll a x)
theorem JP (ll:List (List Int))(told:Nat→Bool)(a:Nat):oB ll told a 0=told:=by funext x;simp[oB]
theorem Hs {ll:List (List Int)}{told:Nat→Bool}{a k:Nat}(h:eB ll a k=false):oB ll told a (k+1)=oB ll told a k:=by
 funext x;unfold oB;by_cases e:x=k;·subst e;simp[h]
 have:(x<k+1)↔(x<k):=by omega
 simp[this]
theorem Em {ll:List (List Int)}{told:Nat→Bool}{a k:Nat}(h:eB ll a k=true):(az 256 (oB ll told a k)).setIfInBounds k (.bool true)=az 256 (oB ll told a (k+1)):=by
 refine dg (by simp[oB,h]) (fun j _ l=>?_);unfold oB;have:(j<k+1)↔(j<k):=by omega
 simp[this]
theorem sJ (S:Nat→Prop)(v:Value)(ll:List (List Int))(w:World)(hv:Rows S w v ll)(hR:aP ll):
 Calls prog 17 #[v] w fun e w'=>∃u B,e=.returned u∧aa All w w'∧w.heap.size≤B∧eN B w' u (bC ll)∧(bC ll).length≤256:=by
 have hl:ll.length≤256:=hR.2.1;have R:=fun w1 (hk:aa All w w1)=>gt S v ll w1 (aq.keep hk.all hv);rw[bL hR] at R;have a8:=fun w1 (hk:aa All w w1)=>rj S v ll w1 (aq.keep hk.all hv) hR;obtain⟨A,cap,rfl,h1,h2,i1,h⟩:=hv;obtain⟨i3,d8,d9,e0,e4⟩:=info_parts yw;obtain⟨i2,b9,c0,c1,c2⟩:=info_parts FR;have I3:=J4 d8 d9 e0 e4;have b7:=J4 b9 c0 c1 c2;have HR:=J3 R a8 hR;clear h h1 h2 i1 R a8 hR d8 d9 e0 e4 b9 c0 c1 c2;go_enter func17,ntmps17;go_wp2_with fail;refine(HR.1 _ (kR.alloc _)).mono ?_;rintro e w1 ⟨rfl,c6⟩;have c7:al w1 w.heap.size 32 #[.slice A ll.length cap]:=(al.new _ _ _).kept c6 trivial;have e5:=c7.cell 0;simp only[gc] at e5;have c3:aa All w w1:=(kR.alloc _).trans c6;have HK:=J2 c3 c7;clear c6 c7 c3;go_wp2_with fail;refine(HR.2.1 _ HK.1).mono ?_;rintro e C ⟨vb,rfl,e6,e7⟩;have c4:=e7;obtain⟨Ab,cb,rfl,_⟩:=e7;have HB:=J2 e6 c4;clear e6 c4 e5;have e8:=MG;go_wp2_with fail
 have e9:ud ll A cap (.slice Ab (dB ll).length cb) w.heap.size C.heap.size (C.heap.size+1+1) (C.heap.size+1) (C.heap.size+1+1+1) w (fun _=>false) (.slice none 0 0) []
  (((C.alloc (.cells #[.slice Ab (dB ll).length cb] 61)).alloc (.cells #[.func (.func 28) #[] #[.pointer (some ⟨C.heap.size,0,none⟩)]] 68)).alloc (.cells tY 69)):=by
  have a1:aa All C (((C.alloc (.cells #[.slice Ab (dB ll).length cb] 61)).alloc (.cells #[.func (.func 28) #[] #[.pointer (some ⟨C.heap.size,0,none⟩)]] 68)).alloc (.cells tY 69)):=((kR.alloc _).alloc _).alloc _;have e1:=HK.1.size;have e2:=HB.1.size;have e3:w.heap.size<w1.heap.size:=HK.2.lt
  exact⟨(HK.2.kept HB.1 trivial).kept a1 trivial,((al.new _ _ _).alloc _).alloc _,ac (by simp),(ac (by simp)).alloc _,
   er.wide (fun b hb=>by omega) (er.keep a1.all (pt HB.2)),by omega,by omega,by omega,by simp,((HK.1.trans HB.1).trans a1).all,eN.nil⟩
 have h0:=oH e9;clear e9 e8;rename_i c8;clear c8
 go_loopg [7] (ll.length+1) (fun gg o wr=>∃(m:Nat) (told:Nat→Bool) (L:List (List Int)),m=gg∧ph ll.length told<m∧L.length+ph ll.length told≤ll.length∧L++gm ll m told=bC ll∧
  ud ll A cap (.slice Ab (dB ll).length cb) w.heap.size C.heap.size (C.heap.size+1+1) (C.heap.size+1) (C.heap.size+1+1+1) w told o L wr)
 ·exact⟨ll.length+1,fun _=>false,[],rfl,Nat.lt_succ_of_le (qI _ _),by simpa using qI _ _,rfl,h0.out⟩
 clear h0;obtain⟨m,told,L,rfl,hm,hL,heq,hinv⟩:=hrel;have i4:=hinv.tou.cell 0;simp only[gc] at i4;have b0:=fun a ha=>DP ll A cap _ _ _ _ _ a told wr hinv.env ha hl;have HI:=J3 heq hinv b0;clear heq hinv b0;go_wp2_with fail;obtain⟨wo,rfl⟩:=eQ wr;go_loopg [8,21] ll.length (fun gg at_ i wr=>∃k:Nat,k≤ll.length∧gg=ll.length-k∧i=.int .i64 k∧at_=.int .i64 (-1)∧wo=wr∧∀a,a<k→dm ll told a=false);·exact⟨0,by omega,by omega,rfl,rfl,rfl,fun a ha=>by omega⟩
 obtain⟨k,hk,rfl,rfl,rfl,rfl,h7⟩:=hrel;have HN:=oH h7;clear h7;by_cases b8:k<ll.length;·(
 have l:=HI.2.2 k b8;cases hr:dm ll told k with
 |false=>
  rw[hr] at l;have HC:=J2 l hr;clear l hr;go_wp2_with (go_at_call 29;refine HC.1.mono ?_;rintro e w' ⟨rfl,rfl⟩);go_roundg (ll.length-(k+1))
  ·refine⟨k+1,by omega,rfl,by go_num,rfl,rfl,fun a ha=>?_⟩;by_cases e:a=k;·subst e;exact HC.2
   exact HN.out a (by omega)
  omega
 |true=>
  rw[hr] at l;have HC:=J2 l hr;clear l hr;have j4:decide ((k:Int)<0)=false:=by simp
  go_wp2_with (go_at_call 29;refine HC.1.mono ?_;rintro e w' ⟨rfl,rfl⟩);have hinv:=HI.2.1;have hB:=hinv.size;have j5:=hinv.low;clear hinv
  go_loopg [10,34] ll.length (fun gg o2 i wr=>∃j:Nat,j≤ll.length∧gg=ll.length-j∧i=.int .i64 j∧aa (fun b=>b≠C.heap.size+1+1∧b<wo.heap.size) wo wr∧al wr (C.heap.size+1+1) 69 (az 256 (oB ll told k j))∧
   wr.ownsRow wo.heap.size 3 1 o2 (qw ll k j).length (aI (qw ll k j)))
  ·exact⟨0,by omega,by omega,rfl,kR,by rw[JP];exact HI.2.1.told,by simp[aI,qw],.inl ⟨rfl,by simp[qw]⟩⟩
  obtain⟨j,hj,rfl,rfl,a6,a7,c5⟩:=hrel;have j7:=Jg ll k j;have hinv:=(HI.2.1).tell a6 a7;have b1:=hinv.env;have b2:=hinv.same.cell 0;simp only[gc] at b2;have HJ:=J4 a6 a7 c5 hinv;clear a6 a7 c5 hinv;by_cases h8:j<ll.length;·(
 have l:=vS _ ll _ _ k j wr b1.been b1.rows b8 h8 hl;clear b1;cases hs:eB ll k j with
 |false=>
  rw[hs] at l;have HS:=J2 l hs;clear l hs;go_wp2_with (go_at_call 28;refine HS.1.mono ?_;rintro e w' ⟨rfl,rfl⟩);go_roundg (ll.length-(j+1));·exact⟨j+1,by omega,rfl,by go_num,HJ.1,by rw[Hs HS.2];exact HJ.2.1,by rw[KZ HS.2];exact HJ.2.2.1⟩
  omega
 |true=>
  rw[hs] at l;have J:(wr.alloc (.cells #[.int .i64 j] 3)).ownsRow wo.heap.size 3 1 u10 (qw ll k j).length (aI (qw ll k j)):=be HJ.2.2.1 ((aa.refl All wr).alloc _) (fun _ _=>trivial);have HS:=J3 l hs J;have j8:=HJ.1.size;clear l hs J
  go_wp2_with (first
   |(go_at_call 28;refine HS.1.mono ?_;rintro e w' ⟨rfl,rfl⟩)
   |(at_builtin
     refine aR _ rfl (.tmp 41) (.tmp 43) 50 rfl wo.heap.size 3 i3 _ 1 8 underlying50 I3.1 I3.2.1 I3.2.2.1 I3.2.2.2 rfl (by decide) _ _ _ rfl HS.2.2 (some ⟨wr.heap.size,0,none⟩) 1 1 [.int .i64 j] rfl rfl ?_ ?_ (by unfold maxLen;omega) (by omega) (by simp;omega) ?_;·intro _;exact⟨_,_,rfl,fun j u hu=>by rw[cN,al.cell (al.new _ _ _)];simpa using hu⟩
     ·intro u hu;rw[cx.1 hu];rfl
     intro v3 w3 Y b3 b4;have a1:aa (fun b=>b<wo.heap.size) wr w3:=((aa.refl _ wr).alloc _).grown b3 fun g hg=>.inl fun h=>by have:=(aD HS.2.2 hg).1;omega
     have I:=HJ.2.1.kept a1 (by omega);have c9:=I.cell j;rw[bj (by omega)] at c9;have i5:=I.free j;have H3:=J3 Y a1 I;clear Y b3 b4 a1 I))
  go_roundg (ll.length-(j+1));·(
 have e:qw ll k (j+1)=qw ll k j++[(j:Int)]:=Jh HS.2.1;refine⟨j+1,by omega,rfl,by go_num,(HJ.1.trans (H3.2.1.mono fun b hb=>hb.2)).setCell (p:=⟨C.heap.size+1+1,j,none⟩) (.inl fun h=>h.1 rfl) _,?_,?_⟩;·rw[←Em HS.2.1];exact H3.2.2.set _ _
 rw[e];have h4:=H3.1
 have h5:(w3.setCell ⟨C.heap.size+1+1,j,none⟩ (.bool true)).ownsRow wo.heap.size 3 1 v3 ((qw ll k j).length+1) (aI (qw ll k j)++[.int .i64 j]):=
  be (S:=fun b=>wo.heap.size≤b) h4 (kR.setCell (p:=⟨C.heap.size+1+1,j,none⟩) (.inl fun h=>by have:wo.heap.size≤C.heap.size+1+1:=h;omega) _) fun g hg=>(aD h4 hg).1
 simpa [aI] using h5)
  omega)
  have i6:j=ll.length:=by omega
  subst i6;obtain⟨Ag,cg,rfl⟩:=aU HJ.2.2.1;have b5:=JD HJ.2.2.1;obtain⟨vs,Z,h9⟩:=HJ.2.2.2.out;have J:(wr.alloc (.cells #[.slice Ag (qw ll k ll.length).length (qw ll k ll.length).length] 50)).ownsRow (C.heap.size+1+1+1) 50 1 u7 L.length vs:=be Z ((aa.refl All wr).alloc _) (fun _ _=>trivial);have hr:=jr (S:=fun b=>wo.heap.size≤b∧b<wr.heap.size) HJ.2.2.1 rfl (by omega) (fun g hg=>aD HJ.2.2.1 hg) (La hl);have HO:=J4 Z h9 J hr;have j6:=HJ.2.2.2.size;have b6:=st Ag (qw ll k ll.length).length cg wr b5.1 (by have:=b5.2;unfold maxLen at this;omega);have i7:=oH b6;clear Z h9 J hr b5 b6 b1 b2
  go_wp2_with (first
   |(go_at_call 30;refine i7.out.mono ?_;rintro e w' ⟨rfl,rfl⟩)
   |(at_builtin
     refine aR _ rfl (.tmp 48) (.tmp 51) 32 rfl (C.heap.size+1+1+1) 50 i2 _ 1 24 underlying32 b7.1 b7.2.1 b7.2.2.1 b7.2.2.2 rfl (by decide) _ _ _ rfl HO.2.2.1 (some ⟨wr.heap.size,0,none⟩) 1 1 [.slice Ag (qw ll k ll.length).length (qw ll k ll.length).length] rfl rfl ?_ ?_ (by unfold maxLen;omega) (by omega) (by simp;omega) ?_;·intro _;exact⟨_,_,rfl,fun j u hu=>by rw[cN,al.cell (al.new _ _ _)];simpa using hu⟩
     ·intro u hu;rw[cx.1 hu];rfl
     intro v4 w4 Y b3 b4))
  obtain⟨m',rfl⟩:∃m',m=m'+1:=⟨m-1,by omega⟩;go_roundg m';·(
 have j0:told k=false:=(gV.1 HC.2).1;have j9:=mr b8 j0;have d7:(List.range ll.length).find? (dm ll told)=some k:=by(
 rcases lD (n:=ll.length) (p:=dm ll told) with ⟨_,h⟩|⟨a,h1,h2,h3,h4⟩;·have h5:=HC.2;rw[h k b8] at h5;cases h5
 rcases Nat.lt_trichotomy a k with h5|h5|h5;·rw[HN.out a h5] at h3;cases h3
 ·rw[h1,h5]
 have h6:=HC.2;rw[h4 k h5] at h6;cases h6)
 have j1:∀b,wo.heap.size≤b→u7.ownBlock≠some b:=fun b hb e=>by obtain⟨k0,j2,_⟩:=HI.2.1.out;have:=(aD j2 e).2;omega
 have hr:aK (fun b=>C.heap.size+1+1+1≤b∧b<wr.heap.size∧u7.ownBlock≠some b) wr (.slice Ag (qw ll k ll.length).length (qw ll k ll.length).length) (nk ll k):=
  ah.wide (fun b hb=>⟨by have:=hb.1;omega,hb.2,j1 b hb.1⟩) (Di HO.2.2.2)
 have i0:eN (C.heap.size+1+1+1) w4 v4 (L++[nk ll k]):=eN.app HO.2.1 HO.1 hr Y b3 b4;have j3:aa (fun b=>b<C.heap.size+1+1+1) wr w4:=((aa.refl _ wr).alloc _).grown b3 fun g hg=>.inl fun h=>by have:=(aD HO.1 hg).1;omega
 refine⟨m',eC ll told k,L++[nk ll k],rfl,by omega,by rw[iQ];simp;omega,?_,HJ.2.2.2.put j3 i0⟩;rw[←HI.1,iv d7,jM];rfl)
  omega)
 go_wp2_with fail;go_ret;have hf:(List.range ll.length).find? (dm ll told)=none:=by rw[List.find?_eq_none];intro a ha;rw[HN.out a (by have:=fg.1 ha;omega)];simp
 have he:=HI.1;rw[jP hf,List.append_nil] at he;subst he;refine⟨_,_,rfl,⟨HI.2.1.kept.os,HI.2.1.kept.output,HI.2.1.kept.size,fun b hb _=>HI.2.1.kept.block b hb hb⟩,?_,HI.2.1.out,by omega⟩;have:=HI.2.1.low;omega
theorem Am (S:Nat→Prop)(v:Value)(ll:List (List Int))(w:World)(l:Rows S w v ll)(o:aP ll):
 Calls prog 17 #[v] w fun e j=>∃u,e=.returned u∧aa All w j∧Rows (fun b=>w.heap.size≤b) j u (bC ll):=by
 refine(sJ S v ll w l o).mono ?_;rintro e j ⟨u,B,rfl,C,I,J,Y⟩;exact⟨u,rfl,C,aq.wide (fun b R=>fR I R) (J.rows (by omega))⟩
def lm (n k:Nat)(cs cs':Array Value):Prop:=cs'.size=cs.size∧∀m,m<n→cs'[m]? =if m<k∨n≤m+k then cs[n-1-m]? else cs[m]?
theorem lm.step {n k:Nat}{cs j:Array Value}{x y:Value}(h:lm n k cs j)(Z:k+k+1<n)(hn:n≤cs.size)(R:j[n-1-k]? =some x)(Y:j[k]? =some y):
 lm n (k+1) cs ((j.setIfInBounds k x).setIfInBounds (n-1-k) y):=by
 refine⟨by simp[h.1],fun m hm=>?_⟩;have l:=h.2 (n-1-k) (by omega);rw[ae (by omega),R] at l;have o:=h.2 k (by omega);rw[ae (by omega),Y] at o;rw[Array.getElem?_setIfInBounds,Array.getElem?_setIfInBounds];simp only[Array.size_setIfInBounds,h.1];by_cases C:n-1-k=m
 ·rw[ap C,ap (by omega),ap (by omega),o]
  congr 1;omega
 rw[ae C];by_cases I:k=m
 ·rw[ap I,ap (by omega),ap (by omega),l]
  congr 1;omega
 rw[ae I,h.2 m hm];by_cases J:m<k∨n≤m+k;·rw[ap J,ap (by omega)]
 rw[ae J,ae (by omega)]
theorem lm.mid {n k:Nat}{cs j:Array Value}(h:lm n k cs j){m:Nat}(l:k≤m)(o:m+k<n):j[m]? =cs[m]?:=by rw[h.2 m (by omega),ae (by omega)]
theorem lm.full {n k:Nat}{cs j:Array Value}(h:lm n k cs j)(l:n≤k+k+1)(m:Nat)(hm:m<n):j[m]? =cs[n-1-m]?:=by
 rw[h.2 m hm];split;·rfl
 congr 1;omega
theorem ze (g n c:Nat)(t:TypeId)(cs:Array Value)(w:World)(hb:al w g t cs)(hn:n≤cs.size)(h1:1≤n)(h2:n≤256)(_:n≤c)(a1:∀m,m<n→∃A l d,cs[m]? =some (.slice A l d)):
 Calls prog 25 #[.slice (some ⟨g,0,none⟩) n c] w fun e w'=>e=.returned (.tuple #[])∧aa (fun b=>b≠g) w w'∧∃I,al w' g t I∧∀m,m<n→I[m]? =cs[n-1-m]?:=by
 have HB:=oH hb;have HS:=oH a1;clear hb a1;have hl:n≤9223372036854775807:=by omega
 go_enter func25,ntmps25;go_wp2;go_loopg [2,3] n (fun gg i j wr=>∃(k:Nat) (I:Array Value),k≤n∧gg=n-k∧i=.int .i64 k∧j=.int .i64 ((n:Int)-1-k)∧aa (fun b=>b≠g) w wr∧al wr g t I∧lm n k cs I);·exact⟨0,cs,by omega,by omega,rfl,by go_num,kR,HB.out,rfl,fun m hm=>by rw[ae (by omega)]⟩
 obtain⟨k,I,hk,rfl,rfl,rfl,C,o,J⟩:=hrel;by_cases a6:k+k+1<n;·(
 have a7:I.size=cs.size:=J.1;obtain⟨A1,l1,d1,R⟩:=HS.out (n-1-k) (by omega);obtain⟨A2,l2,d2,Y⟩:=HS.out k (by omega);rw[←J.mid (by omega) (by omega)] at R;rw[←J.mid (by omega) (by omega)] at Y;have e:((n:Int)-1-k)=((n-1-k:Nat):Int):=by omega
 obtain⟨j,Z⟩:=eQ (n-1-k);rw[e,←Z];rw[←Z] at R;have c1:=o.cell j;have c2:=o.cell k;have f1:=o.free j;have f2:=o.free k;rw[R] at c1;rw[Y] at c2;have a8:k<j:=by omega
 have b0:j<n:=by omega
 have HT:=J6 o J R Y Z C;clear o J R Y C Z e;go_wp2_with fail
 go_region
 go_wp2;go_roundg (n-(k+1))
 ·obtain⟨o,J,R,Y,Z,C⟩:=HT.out;subst Z;refine⟨k+1,(I.setIfInBounds k (.slice A1 l1 d1)).setIfInBounds (n-1-k) (.slice A2 l2 d2),by omega,rfl,by go_num,by go_num,?_,?_,J.step a6 hn R Y⟩;·exact((C.setCell (.inl fun h=>h rfl) _).setCell (.inl fun h=>h rfl) _).drew
  exact((o.set k _).set (n-1-k) _).drew
 omega)
 go_wp2
 go_end0
 exact⟨rfl,C,I,o,fun m hm=>J.full (by omega) m hm⟩
theorem qD (n:Nat)(R:n≤1048576)(w:World):(Instr.makeSlice 32 (.int .i64 n) (.int .i64 n)).run prog w=.ok (.slice (some ⟨w.heap.size,0,none⟩) n n) (w.alloc (.cells (dM n fun _=>.slice none 0 0) 50)):=by
 obtain⟨l,hi,C,I,J⟩:=info_parts FR;rw[run_make (P:=prog) w 32 50 l (.slice none 0 0) underlying32 hi C .i64 .i64 n n (by omega) (by omega) (by rw[J];omega) (by omega)];have e:madeCells (Value.slice none 0 0).cells ((n:Int).toNat*l.size)=dM n fun _=>.slice none 0 0:=by(
 rw[I,dP,Nat.mul_one];apply Array.ext_getElem?;intro j;by_cases o:j<n;·rw[cq o];simp[madeCells,o,Value.cells,Nat.mod_one]
 rw[jK (by rw[size_madeCells];omega),jK (by rw[ew];omega)])
 rw[e,dP]
structure ii (N B g:Nat)(w:World)(F:Nat→Value)(R:Nat→List Int):Prop where
 tab:al w g 50 (dM N F)
 low:g<B
 own:∀k,k<N→w.ownsRow B 3 1 (F k) (R k).length (aI (R k))
 apart:∀k k' b,k<N→k'<N→k≠k'→(F k).ownBlock=some b→(F k').ownBlock≠some b
theorem ii.step {N B g k:Nat}{w w2:World}{F:Nat→Value}{R R':Nat→List Int}{v2:Value}{o:Obj}{x:Int}(h:ii N B g w F R)(hk:k<N)(Y:w2.ownsRow B 3 1 v2 ((R k).length+1) (aI (R k)++[.int .i64 x]))
 (hg:(w.alloc o).grownBy w2 (F k).ownBlock) (a1:v2.ownBlock=(F k).ownBlock∨v2.ownBlock=some (w.alloc o).heap.size) (hR:R' k=R k++[x]) (a8:∀j,j≠k→R' j=R j):
 ii N B g (w2.setCell ⟨g,k,none⟩ v2) (qd F k v2) R':=by
 have a6:=h.low;have a7:aa (fun b=>(F k).ownBlock≠some b) w w2:=((aa.refl _ w).alloc o).grown hg fun b l=>.inl fun h=>h l;have Z:aa (fun b=>b≠g) w2 (w2.setCell ⟨g,k,none⟩ v2):=(aa.refl _ w2).setCell (p:=⟨g,k,none⟩) (.inl fun h=>h rfl) _;refine⟨?_,a6,fun j hj=>?_,fun j j' b hj I J l=>?_⟩
 ·rw[←jo]
  exact(h.tab.kept a7 (fun e=>by have:=(aD (h.own k hk) e).1;omega)).set _ _
 ·by_cases e:j=k
  ·subst e
   rw[jd,hR];have:=be Y Z fun b l=>by have:=(aD Y l).1;show b≠g;omega
   simpa [aI] using this
  rw[li e,a8 j e];have C:=h.own j hj;refine be (be C a7 fun b l=>h.apart j k b hj hk e l) Z fun b l=>?_;have:=(aD C l).1;show b≠g;omega
 by_cases e:j=k
 ·subst e;rw[jd] at l;rw[li (fun x=>J x.symm)];rcases a1 with C|C;·rw[C] at l;exact h.apart j j' b hj I J l
  rw[C] at l;intro h2;have:=(aD (h.own j' I) h2).2;simp at l;omega
 rw[li e] at l;by_cases e':j'=k
 ·subst e';rw[jd];rcases a1 with C|C;·rw[C];exact h.apart j j' b hj I J l
  rw[C];intro h2;have:=(aD (h.own j hj) l).2;simp at h2;omega
 rw[li e'];exact h.apart j j' b hj I J l
theorem sd (S:Nat→Prop)(v:Value)(ll:List (List Int))(w:World)(hv:Rows S w v ll)(hR:aP ll):
 Calls prog 54 #[v] w fun e w'=>∃u,e=.returned u∧aa All w w'∧Rows (fun b=>w.heap.size≤b) w' u ((List.range ll.length).map (di ll ll.length)):=by
 have Y:=gt S v ll w hv;rw[bL hR] at Y;have hl:ll.length≤256:=hR.2.1;have d8:=hv;obtain⟨A,cap,rfl,h1,h2,h5,h⟩:=hv;obtain⟨i3,d9,e0,e1,e2⟩:=info_parts yw;have I3:=J4 d9 e0 e1 e2;have HR:=J3 Y hR d8;clear Y hR d8 h h1 h2 h5 d9 e0 e1 e2;have i1:=fun w=>qD ll.length (by omega) w;go_enter func54,ntmps54;go_wp2_with fail;refine HR.1.mono ?_;rintro e R ⟨rfl,e4⟩;have HK:=oH e4;clear e4;go_wp2_with fail;go_loopg [17] ll.length (fun g i wr=>∃(i':Nat) (F:Nat→Value),i'≤ll.length∧g=ll.length-i'∧i=.int .i64 i'∧aa All R wr∧R.heap.size<wr.heap.size∧ii ll.length (R.heap.size+1) R.heap.size wr F (fun k=>di ll i' k))
 case atStart=>refine⟨0,fun _=>.slice none 0 0,by omega,by omega,rfl,kR.alloc _,by simp,al.new _ _ _,by omega,fun k hk=>⟨rfl,.inl ⟨rfl,rfl⟩⟩,fun k k' b _ _ _ h=>by cases h⟩
 obtain⟨i,F,hi,rfl,rfl,o,b8,C⟩:=hrel;have Z:=J2 o C;clear o C;by_cases h6:i<ll.length;·(
 obtain⟨row,b9⟩:=eG h6;have b4:eV ll.length row:=HR.2.1.2.2 row (mG b9);have i2:=du b4;obtain⟨A',cc,h7,_,_,_,b0⟩:=HR.2.2;cases h7;obtain⟨b1,o1,c1,rfl,i4,e5,A3,c3,rfl,r1,r2,_,rh⟩:=b0 i row b9;have e6:=(HK.out.trans Z.1).cell (p:=⟨b1,o1+i,none⟩) trivial e5;have b3:=J3 b9 b4 rh;clear b9 b4 rh e5 b0 r1 r2;go_wp2_with fail;clear e6;obtain⟨wo,rfl⟩:=eQ wr;go_loopg [24] row.length (fun g m wr=>∃(m':Nat) (F:Nat→Value),m'≤row.length∧g=row.length-m'∧m=.int .i64 m'∧aa All R wr∧R.heap.size<wr.heap.size∧ii ll.length (R.heap.size+1) R.heap.size wr F (fun k=>gS ll row i m' k));·exact⟨0,F,by omega,by omega,rfl,Z.1,b8,by simpa only[GM] using Z.2⟩
 clear Z b8;obtain⟨m,F,hm,rfl,rfl,o,b8,C⟩:=hrel;by_cases J:m<row.length;·(
 obtain⟨b2,o2,c2,rfl,i5,e7,rfl,h8⟩:=b3.2.2 m row[m] (lG J);have h9:=(HK.out.trans o).cell (p:=⟨b2,o2+m,none⟩) trivial e7;obtain⟨y0,y1⟩:=b3.2.1.1 row[m] (eL J);obtain⟨q,hq⟩:∃q:Nat,row[m]=q:=⟨row[m].toNat,by omega⟩;have b5:q<ll.length:=by omega
 have c4:=AO (ll:=ll) (i:=i) J b3.2.1.2 hq;have e8:=fun j hj=>DK (ll:=ll) (i:=i) (j:=j) J hq hj;rw[hq] at h9;have I:=C.tab.cell q;rw[cq b5] at I;have c5:=C.own q b5;have e9:=AN (ll:=ll) row i m q;have a6:(wr.alloc (.cells #[.int .i64 i] 3)).ownsRow (R.heap.size+1) 3 1 (F q) (gS ll row i m q).length (aI (gS ll row i m q)):=be c5 ((aa.refl All wr).alloc _) (fun _ _=>trivial);have Z:=J4 o C c4 e8;clear o C c4 e8 hq y0 y1 e7 h8 c5;go_wp2_with (
  at_builtin;refine aR _ rfl (.tmp 33) (.tmp 35) 50 rfl (R.heap.size+1) 3 i3 _ 1 8 underlying50 I3.1 I3.2.1 I3.2.2.1 I3.2.2.2 rfl (by decide) _ _ _ rfl a6 (some ⟨wr.heap.size,0,none⟩) 1 1 [.int .i64 i] rfl rfl ?_ ?_ (by unfold maxLen;omega) (by omega) (by simp;omega) ?_;·intro _;exact⟨_,_,rfl,fun j u hu=>by rw[cN,al.cell (al.new _ _ _)];simpa using hu⟩
  ·intro u hu
   rw[cx.1 hu];rfl
  intro v2 w2 a7 c0 c6;obtain⟨A2,c2,rfl⟩:=aU a7;have c9:aa (fun b=>(F q).ownBlock≠some b) wr w2:=((aa.refl _ wr).alloc _).grown c0 fun g hg=>.inl fun h=>h hg;have a8:=Z.2.1.tab.kept c9 (fun e=>by have:=(aD (Z.2.1.own q b5) e).1;omega);have I:=a8.cell q;rw[cq b5] at I;have d7:=a8.free q;have i0:=c9.size;have b6:=Z.2.1.step b5 a7 c0 c6 Z.2.2.1 Z.2.2.2;have h0:aa All R w2:=(Z.1.alloc _).grown c0 fun g hg=>.inr (by have:=(aD a6 hg).1;omega);have HS:=J2 b6 h0;clear a7 c0 c6 c9 a8 b6 h0 a6)
 go_roundg (row.length-(m+1));·exact⟨m+1,qd F q _,by omega,rfl,by go_num,HS.2.setCell (p:=⟨R.heap.size,q,none⟩) (.inr (cf _)) _,by simp;omega,HS.1⟩
 omega)
 obtain rfl:m=row.length:=by omega
 have Z:=J2 o C;clear o C;go_wp2_with fail;go_roundg (ll.length-(i+1));·exact⟨i+1,F,by omega,rfl,by go_num,Z.1,b8,by simpa only[yT b3.1] using Z.2⟩
 omega)
 obtain rfl:i=ll.length:=by omega
 have hints:∀k,k<ll.length→aK (fun b=>R.heap.size<b) wr (F k) (di ll ll.length k):=fun k hk=>by have h:=Z.2.own k hk;have e9:=vN (ll:=ll) ll.length k;exact jr h rfl (by omega) (fun g hg=>(aD h hg).1) fun x hx=>by obtain⟨a,rfl,ha,_⟩:=jc.1 hx;exact WalkArith.wf_i64 (by omega)
 have HI:=J3 Z.1 Z.2.tab hints;clear Z hints;go_wp2_with fail;obtain⟨wo,rfl⟩:=eQ wr;go_loopg [42] ll.length (fun g i wr=>∃(j:Nat) (F:Nat→Value),j≤ll.length∧g=ll.length-j∧i=.int .i64 j∧aa All R wr∧al wr R.heap.size 50 (dM ll.length F)∧∀k,k<ll.length→aK (fun b=>R.heap.size<b) wr (F k) (di ll ll.length k));·exact⟨0,F,by omega,by omega,rfl,HI.out⟩
 clear HI;obtain⟨j,F,hj,rfl,rfl,o,a1,hints⟩:=hrel;have HI:=J3 o a1 hints;by_cases J:j<ll.length
 ·have I:=a1.cell j;rw[cq J] at I;have d7:=a1.free j;have hint:=hints j J;obtain⟨A2,h3,hF,r1,r2,r3,r4⟩:=hint;rw[hF] at I;have b7:=st A2 (di ll ll.length j).length h3 wr r1 (by unfold maxLen at r2;omega);have c7:aK (fun b=>R.heap.size<b) wr (.slice A2 (di ll ll.length j).length (di ll ll.length j).length) (di ll ll.length j):=⟨A2,_,rfl,cf _,fR r1 r2,r3,r4⟩;have HC:=J2 b7 c7;clear o a1 hints hF b7 c7 r1 r2 r3 r4;go_wp2_with (go_at_call 30;refine HC.1.mono ?_;rintro e w' ⟨rfl,rfl⟩);go_roundg (ll.length-(j+1))
  ·have c8:aa (fun b=>R.heap.size<b) wr (wr.setCell ⟨R.heap.size,j,none⟩ (.slice A2 (di ll ll.length j).length (di ll ll.length j).length)):=(aa.refl _ wr).setCell (p:=⟨R.heap.size,j,none⟩) (.inl (Nat.lt_irrefl _)) _;refine⟨j+1,qd F j (.slice A2 (di ll ll.length j).length (di ll ll.length j).length),by omega,rfl,by go_num,HI.1.setCell (p:=⟨R.heap.size,j,none⟩) (.inr (cf _)) _,?_,fun k hk=>?_⟩;·rw[←jo];exact HI.2.1.set _ _
   by_cases e:k=j;·subst e;rw[jd];exact ah.keep c8 HC.2
   rw[li e];exact ah.keep c8 (HI.2.2 k hk)
  omega
 obtain rfl:j=ll.length:=by omega
 clear o a1 hints;go_wp2_with fail;go_ret;refine⟨_,rfl,HK.out.trans HI.1,?_⟩;have h4:=HK.out.size;have e3:((List.range ll.length).map (di ll ll.length)).length=ll.length:=by simp
 have:=Sl.of_blk (bw:=24) (E:=Sl 8 rQ) (S:=fun b=>w.heap.size≤b) (l:=(List.range ll.length).map (di ll ll.length)) (cap:=ll.length) HI.2.1 h4 (by rw[e3];omega) (by unfold maxLen;omega) (by rw[e3];omega) (fun i x hx=>by
  have hi:i<ll.length:=by(
 rcases Nat.lt_or_ge i ll.length with h|h;·exact h
 rw[jz (by rw[e3];omega)] at hx;cases hx)
  rw[cL,ln hi] at hx;cases hx;exact⟨F i,cq hi,ah.wide (fun b hb=>by omega) (HI.2.2 i hi)⟩)
 rwa [e3] at this
theorem xk (g n c:Nat)(t:TypeId)(cs:Array Value)(w:World)(hb:al w g t cs)(hn:n≤cs.size)(h1:1≤n)(h2:n≤256)(_:n≤c)(Z:∀m,m<n→∃x,cs[m]? =some (.int .i64 x)):
 Calls prog 115 #[.slice (some ⟨g,0,none⟩) n c] w fun e w'=>e=.returned (.tuple #[])∧aa (fun b=>b≠g) w w'∧∃C,al w' g t C∧∀m,m<n→C[m]? =cs[n-1-m]?:=by
 have HB:=oH hb;have HS:=oH Z;clear hb Z;have hl:n≤9223372036854775807:=by omega
 go_enter func115,ntmps115;go_wp2;go_loopg [2,3] n (fun gg i j wr=>∃(k:Nat) (C:Array Value),k≤n∧gg=n-k∧i=.int .i64 k∧j=.int .i64 ((n:Int)-1-k)∧aa (fun b=>b≠g) w wr∧al wr g t C∧lm n k cs C);·exact⟨0,cs,by omega,by omega,rfl,by go_num,kR,HB.out,rfl,fun m hm=>by rw[ae (by omega)]⟩
 obtain⟨k,C,hk,rfl,rfl,rfl,o,l,I⟩:=hrel;by_cases a1:k+k+1<n;·(
 have a6:C.size=cs.size:=I.1;obtain⟨x1,J⟩:=HS.out (n-1-k) (by omega);obtain⟨x2,R⟩:=HS.out k (by omega);rw[←I.mid (by omega) (by omega)] at J;rw[←I.mid (by omega) (by omega)] at R;have e:((n:Int)-1-k)=((n-1-k:Nat):Int):=by omega
 obtain⟨j,Y⟩:=eQ (n-1-k);rw[e,←Y];rw[←Y] at J;have c1:=l.cell j;have c2:=l.cell k;have f1:=l.free j;have f2:=l.free k;rw[J] at c1;rw[R] at c2;have a7:k<j:=by omega
 have a8:j<n:=by omega
 have HT:=J6 l I J R Y o;clear l I J R o Y e;go_wp2_with fail
 go_region
 go_wp2;go_roundg (n-(k+1))
 ·obtain⟨l,I,J,R,Y,o⟩:=HT.out;subst Y;refine⟨k+1,(C.setIfInBounds k (.int .i64 x1)).setIfInBounds (n-1-k) (.int .i64 x2),by omega,rfl,by go_num,by go_num,?_,?_,I.step a1 hn J R⟩;·exact((o.setCell (.inl fun h=>h rfl) _).setCell (.inl fun h=>h rfl) _).drew
  exact((l.set k _).set (n-1-k) _).drew
 omega)
 go_wp2
 go_end0
 exact⟨rfl,o,C,l,fun m hm=>I.full (by omega) m hm⟩
structure Cw (ll:List (List Int))(ord:List Nat):Prop where
 op:zJ (dH ll) ll.length (fun x=>ord.idxOf x)
 len:ord.length=ll.length
 zero:ord[0]? =some 0
 at':∀(m:Nat) x,ord[m]? =some x→ord.idxOf x=m
 lt:∀x∈ord,x<ll.length
theorem JB {ll:List (List Int)}(l:aP ll){s:List Nat}(h:jg (dH ll) 0 s)(o:(s++[0]).Nodup)(hm:∀x,x∈s++[0]↔aQ ll 0 x)(C:∀k,k<ll.length→aQ ll 0 k):Cw ll (s++[0]).reverse:=by have j:∀x,x∈s++[0]↔x<ll.length:=fun x=>(hm x).trans ⟨fun h=>tB l l.1 h,fun h=>C x h⟩;obtain⟨I,J,R,Y⟩:=Lu (fun a b e=>⟨lq e,EU l e⟩) h o j;exact⟨I,J,R,Y,fun x Z=>(j x).1 (List.mem_reverse.1 Z)⟩
theorem tT {n:Nat}(h:n≤1000000):(Lit.int .i64 (n:Int)).wf=true:=by simp only[Lit.wf,IntKind.min,IntKind.max,IntKind.signed,IntKind.bits,gE,iH,if_true];omega
theorem Aj (S:Nat→Prop)(v:Value)(ll:List (List Int))(w:World)(hv:Rows S w v ll)(hR:aP ll)(hL:∀k,k<ll.length→aQ ll 0 k):
 Calls prog 83 #[v] w fun e w'=>∃u ord,e=.returned u∧aa All w w'∧aK (fun b=>w.heap.size≤b) w' u (ord.map Int.ofNat)∧Cw ll ord:=by
 have l:=gt S v ll w hv;rw[bL hR] at l;have b5:=fun o (hk:aa All w o)=>jh (aq.keep hk.all hv);obtain⟨a,cap,rfl,h1,h2,b9,h⟩:=hv;have hl:ll.length≤256:=hR.2.1;have HR:=J4 l b5 hR hL;clear h h1 h2 b9 l b5 hR hL;go_enter func83,ntmps83;go_wp2_with fail;refine HR.1.mono ?_;rintro e o ⟨rfl,b3⟩;have HK:=oH b3
 have hw:=Et o.heap.size _ ll 0 (o.alloc (.cells #[.slice none 0 0] 50)) (aq.wide (T:=fun b=>b<(o.alloc (.cells #[.slice none 0 0] 50)).heap.size∧b≠o.heap.size) (fun b hb=>by simp;omega) (aq.keep ((aa.refl All o).alloc _).all (HR.2.1 _ b3))) HR.2.2.1 HR.2.2.1.1 (.inl (by simp))
  ⟨by simp;omega,by simp[qL],.slice none 0 0,(((((al.new _ _ _).alloc _).alloc _).alloc _).alloc _).alloc _,rfl,.inl ⟨rfl,rfl⟩⟩
 have HW:=oH hw;clear b3 hw;go_wp2_with fail;refine HW.out.mono ?_;rintro e w2 ⟨u,s,rfl,Y,_,⟨c0,c1,vs,b4,c2⟩,C,b6,a7⟩;have j:=JB HR.2.2.1 C b6 a7 HR.2.2.2;have Z:((s++[0]).map Int.ofNat).length=ll.length:=by rw[ce,←j.len,List.length_reverse]
 have a8:(s++[0]).length=ll.length:=by rw[←j.len,List.length_reverse]
 have h0:=b4.cell 0;obtain⟨_,b0⟩:=c2;rw[a8] at b0;rcases b0 with ⟨_,hn⟩|⟨g,I,cur,rfl,hg,hh,b7,c3,c4,b8⟩;·have:=HR.2.2.1.1;omega
 have J:∀m,m<ll.length→cur[m]? =some (.int .i64 (((s++[0]).map Int.ofNat).getD m 0)):=by(
 intro m hm;have e1:(cur.toList.take (ll.length*1))[m]? =(aI ((s++[0]).map Int.ofNat))[m]?:=by rw[b8]
 rw[rY (by omega)] at e1;simp only[Array.getElem?_toList] at e1;rw[e1];simp only[aI,cL,iG];rw[lG (by omega)];rfl)
 have b1:=xk g ll.length I _ cur w2 hh (by omega) HR.2.2.1.1 hl b7 (fun m hm=>⟨_,J m hm⟩);have HV:=oH b1;have HA:=J5 Y j J Z b4;have c5:o.heap.size≠g:=by simp at hg;omega
 have c6:I≤9223372036854775807:=by unfold maxLen at c3;omega
 have d7:o.heap.size≤g:=by simp at hg;omega
 simp only[gc] at h0;clear b1 Y j J Z a8 b8 c4 hh C b6 a7 c0 c1 b4 hg;go_wp2_with fail;refine HV.out.mono ?_;rintro e w3 ⟨rfl,R,d8,a1,a6⟩;have h1:=(HA.2.2.2.2.kept R c5).cell 0;simp only[gc] at h1;have HC:=J3 R a1 a6;have HP:=oH (st (some ⟨g,0,none⟩) ll.length I w3 b7 c6);clear R a1 a6 h0;go_wp2_with fail;refine HP.out.mono ?_;rintro e w4 ⟨rfl,rfl⟩;go_wp2_with fail;go_ret;obtain⟨Y,j,J,Z,_⟩:=HA.out;obtain⟨R,a1,a6⟩:=HC.out;have c7:aa All o w3:=by
  have c8:aa (fun b=>b<o.heap.size) (o.alloc (.cells #[.slice none 0 0] 50)) w2:=Y.mono fun b hb=>by omega
  have c9:aa (fun b=>b<o.heap.size) w2 w3:=R.mono fun b hb=>by omega
  exact am ((((aa.refl _ o).alloc _).trans c8).trans c9)
 refine⟨_,(s++[0]).reverse,rfl,HK.out.trans c7,?_,j⟩;have b2:((s++[0]).reverse.map Int.ofNat).length=ll.length:=by rw[ce,j.len]
 rw[←b2];refine Sl.of_blk a1 (by have:=HK.out.size;omega) (cf _) (by unfold maxLen;omega) (by omega) fun i x hx=>?_;have hi:i<ll.length:=by rw[←b2];exact(lS.1 hx).1
 refine⟨.int .i64 x,?_,rfl,?_⟩
 ·rw[a6 i hi,J _ (by omega),iG]
  rw[List.map_reverse,List.getElem?_reverse (by omega)] at hx;rw[←Z,hx];rfl
 rw[cL] at hx;obtain⟨y,hy,rfl⟩:=oE.1 hx;have:=j.lt y (mG hy);exact tT (by omega)
end Go.Proofs.YtceloincoomjeaaGreatDoor
