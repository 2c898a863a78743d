/- Part 22 of the proof of CallsShallow (its last part says what is proved). No condition. -/
import Derived.Test.YtncdbjponknakaaGreatDoorK20
namespace Go.Proofs.YtncdbjponknakaaGreatDoor
set_option maxRecDepth 100000
set_option maxHeartbeats 8000000
open Go.RowKit Go.Proofs.Tryz
structure zK (ll:List (List Int))(p q:Nat→Bool)(i:Nat)(s:List Nat):Prop where
 post:jg (dH ll) i s
 nodup:s.Nodup
 mem:∀x,x∈s↔(q x=true∧nX p i x=false)
structure Ih (ll:List (List Int))(p q:Nat→Bool)(i:Nat)(s:List Nat):Prop where
 post:jg (dH ll) i s
 nodup:(s++[i]).Nodup
 mem:∀x,x∈s++[i]↔(q x=true∧p x=false)
theorem Hh (ll:List (List Int))(p:Nat→Bool)(i:Nat):zK ll p (nX p i) i []:=⟨GG _ _,List.nodup_nil,fun x=>by simp⟩
theorem vT {ll:List (List Int)}{p q Y:Nat→Bool}{i j:Nat}{s Z:List Nat}(h:zK ll p q i s)(J:∀k,nX p i k=true→q k=true)(o:∀k,q k=true→Y k=true)(he:dH ll i j)(R:Ih ll q Y j Z):zK ll p Y i (s++(Z++[j])):=by
 refine⟨GF h.post R.post he,?_,fun x=>?_⟩;·refine List.nodup_append.2 ⟨h.nodup,R.nodup,fun a ha b hb e=>?_⟩;subst e;have C:=((h.mem a).1 ha).1;have l:=((R.mem a).1 hb).2;rw[C] at l;cases l
 rw[eD,h.mem,R.mem];constructor
 ·rintro(⟨C,l⟩|⟨C,l⟩);·exact⟨o x C,l⟩
  refine⟨C,?_⟩;cases hu:nX p i x with
  |false=>rfl
  |true=>rw[J x hu] at l;cases l
 rintro⟨C,l⟩;cases hq:q x with
 |false=>exact .inr ⟨C,rfl⟩
 |true=>exact .inl ⟨rfl,l⟩
theorem zr {ll:List (List Int)}{p q:Nat→Bool}{i:Nat}{s:List Nat}(h:zK ll p q i s)(l:p i=false)(o:q i=true):Ih ll p q i s:=by
 refine⟨h.post,?_,fun x=>?_⟩;·refine List.nodup_append.2 ⟨h.nodup,by simp,fun a C b j e=>?_⟩;have j:=cx.1 j;subst j;subst e;have:=((h.mem a).1 C).2;rw[dF] at this;cases this
 rw[eD,h.mem,cx];by_cases e:x=i;·subst e;simp[l,o]
 rw[fd e];simp[e]
def xH (n:Nat)(p:Nat→Bool)(l:List Nat):Prop:=l.Nodup∧∀x∈l,p x=true∧x<n
theorem zA {n:Nat}{p:Nat→Bool}{l:List Nat}(h:xH n p l):l.length≤n:=by have:=List.Nodup.length_le_of_subset h.1 (l₂:=List.range n) fun x j=>fg.2 (h.2 x j).2;simpa using this
theorem zB {ll:List (List Int)}{p q:Nat→Bool}{i:Nat}{l s:List Nat}(Z:aP ll)(hi:i<ll.length)(h:xH ll.length p l)(Y:zK ll p q i s)(C:∀k,nX p i k=true→q k=true)(J:∀k,q k=true→p k=true∨aQ ll i k):xH ll.length q (l++s):=by
 refine⟨List.nodup_append.2 ⟨h.1,Y.nodup,fun a ha b hb e=>?_⟩,fun x j=>?_⟩
 ·subst e
  have R:=(h.2 a ha).1;have o:=((Y.mem a).1 hb).2;rw[je _ _ _ R] at o;cases o
 rcases eD.1 j with j|j;·exact⟨C x (je _ _ _ (h.2 x j).1),(h.2 x j).2⟩
 have R:=(Y.mem x).1 j;refine⟨R.1,?_⟩;rcases J x R.1 with o|o;·have:=R.2;rw[je _ _ _ o] at this;cases this
 exact tB Z hi o
def SV (g bo base:Nat):Nat→Prop:=fun b=>b≠g∧b≠bo∧b<base
def mS (_ _:Nat)(_:World)(_:List Nat):Prop:=True
def mT (bo base:Nat)(w:World)(l:List Nat):Prop:=bo<base∧base≤w.heap.size∧∃vs,al w bo 45 #[vs]∧w.ownsRow base 3 1 vs l.length (aI (l.map Int.ofNat))
theorem mS.keep {j base g:Nat}{w o:World}{l:List Nat}(_:mS j base w l)(_:aa (fun b=>b≠g) w o)(_:g<base)(_:g≠j):mS j base o l:=trivial
theorem mT.keep {j base g:Nat}{w C:World}{l:List Nat}(h:mT j base w l)(k:aa (fun b=>b≠g) w C)(hg:g<base)(R:g≠j):mT j base C l:=by obtain⟨Y,Z,vs,h3,J⟩:=h;exact⟨Y,fR Z k.size,vs,h3.kept k (fun e=>R e.symm),be J k fun b o=>by have:=(aD J o).1;show b≠g;omega⟩
theorem Ej (j base i:Nat)(w:World)(l:List Nat)(_:mS j base w l)(_:l.length≤1000)(_:i≤1000):
 Calls prog 101 #[.int .i64 i] w fun e o=>e=.returned (.tuple #[])∧mS j base o (l++[i])∧aa (fun b=>b≠j∧b<base) w o:=by
 go_enter func101,ntmps101;go_wp2
 go_end0
 exact⟨rfl,trivial,kR⟩
theorem Ek (bo base i:Nat)(w:World)(l:List Nat)(hT:mT bo base w l)(hl:l.length≤1000)(_:i≤1000):
 Calls prog 145 #[.int .i64 i,.pointer (some ⟨bo,0,none⟩)] w fun e w'=>e=.returned (.tuple #[])∧mT bo base w' (l++[i])∧aa (fun b=>b≠bo∧b<base) w w':=by
 obtain⟨i3,a6,a7,a8,b0⟩:=info_parts kt;have I3:=J4 a6 a7 a8 b0;clear a6 a7 a8 b0;obtain⟨h1,h2,vs,h3,h4⟩:=hT;have a1:=h3.cell 0;have o:(w.alloc (.cells #[.int .i64 i] 3)).ownsRow base 3 1 vs l.length (aI (l.map Int.ofNat)):=be h4 ((aa.refl All w).alloc _) (fun _ _=>trivial);obtain⟨A0,c0,rfl⟩:=aU h4;have HT:=J2 h3 h4;clear h3 h4;simp only[gc] at a1;go_enter func145,ntmps145;go_wp2_with (
  at_builtin;refine aR _ rfl (.tmp 3) (.tmp 5) 45 rfl base 3 i3 _ 1 8 underlying45 I3.1 I3.2.1 I3.2.2.1 I3.2.2.2 rfl (by decide) _ _ _ rfl o (some ⟨w.heap.size,0,none⟩) 1 1 [.int .i64 i] rfl rfl ?_ ?_ (by unfold maxLen;omega) (by omega) (by simp;omega) ?_;·intro _;exact⟨_,_,rfl,fun j u hu=>by rw[cN,al.cell (al.new _ _ _)];simpa using hu⟩
  ·intro u hu
   rw[cx.1 hu];rfl
  intro v2 w2 C b1 b2;obtain⟨A2,c2,rfl⟩:=aU C;have b3:∀b,(Value.slice A0 l.length c0).ownBlock=some b→base≤b:=fun b hb=>(aD o hb).1;have R:aa (fun b=>b<base) w w2:=((aa.refl _ w).alloc _).grown b1 fun g hg=>.inl fun h=>by have:=b3 g hg;omega
  have Y:=HT.1.kept R h1;have Z:=Y.cell 0;have b4:=Y.free 0;have b5:=R.size;have HS:=J3 C R Y;clear C b1 b2 R o b3 Y;simp only[gc] at Z)
 go_end0
 obtain⟨g1,g2,g3⟩:=HS.out;have J:aa (fun b=>b≠bo) w2 (w2.setCell ⟨bo,0,none⟩ (.slice A2 (l.length+1) c2)):=(aa.refl _ w2).setCell (p:=⟨bo,0,none⟩) (.inl fun h=>h rfl) _;refine⟨rfl,⟨h1,by have:=J.size;omega,_,g3.set 0 _,?_⟩,(g2.mono fun b hb=>hb.2).trans (J.mono fun b hb=>hb.1)⟩;rw[iQ,List.length_singleton];have:=be g1 J fun b hb=>by have:=(aD g1 hb).1;show b≠bo;omega
 simpa [aI] using this
structure EF (ll:List (List Int))(v:Value)(bb bt bv bl g bo base:Nat)(w:World):Prop where
 been:al w bb 36 #[.slice (some ⟨g,0,none⟩) ll.length ll.length]
 tos:al w bt 54 #[v]
 visit:al w bv 152 #[.func (.func 80) #[] #[.pointer (some ⟨bb,0,none⟩),.pointer (some ⟨bt,0,none⟩),.pointer (some ⟨bv,0,none⟩),.pointer (some ⟨bl,0,none⟩)]]
 tell:al w bl 152 #[.func (.func 101) #[] #[]]
 rows:Rows (SV g bo base) w v ll
 ne:SV g bo base bb∧SV g bo base bt∧SV g bo base bv∧SV g bo base bl∧g<base∧g≠bo
theorem EF.keep {ll:List (List Int)}{v:Value}{bb l o C g j base:Nat}{w J:World}(h:EF ll v bb l o C g j base w)(k:aa (SV g j base) w J):EF ll v bb l o C g j base J:=
 ⟨h.been.kept k h.ne.1,h.tos.kept k h.ne.2.1,h.visit.kept k h.ne.2.2.1,h.tell.kept k h.ne.2.2.2.1,aq.keep k h.rows,h.ne⟩
theorem LM (ll:List (List Int))(hR:aP ll)(v:Value)(bb bt bv bl g bo base:Nat)(m:Nat):∀(i:Nat) (p:Nat→Bool) (l:List Nat) (w:World),ph ll.length p≤m→i<ll.length→p i=false→EF ll v bb bt bv bl g bo base w→al w g 4 (az ll.length p)→mS bo base w l→xH ll.length p l→
 Calls prog 80 #[.int .i64 i,.pointer (some ⟨bb,0,none⟩),.pointer (some ⟨bt,0,none⟩),.pointer (some ⟨bv,0,none⟩),.pointer (some ⟨bl,0,none⟩)] w fun e w'=>
  e=.returned (.tuple #[])∧∃q s,al w' g 4 (az ll.length q)∧aa (SV g bo base) w w'∧Kv ll p q i∧Ih ll p q i s∧mS bo base w' (l++(s++[i])):=by
 induction m with
 |zero=>intro i p l w hm hi hp;have:=jj ll.length hi hp;omega
 |succ m ih=>
  intro i p l w hm hi hp env J b5 b6;have IH:=oH ih;clear ih;have hl:ll.length≤256:=hR.2.1;have c7:=gw hR hi;have a6:=fun j=>kQ (ll:=ll) (j:=j) hi;have e9:ll[i].length≤256:=by have:=du (hR.2.2 _ (eL hi));omega
  have e0:=oH env;obtain⟨a,cap,rfl,_,_,_,h⟩:=env.rows;obtain⟨b1,o1,c1,rfl,h0,e1,ra,i4,rfl,_,_,_,rh⟩:=h i ll[i] (lG hi);have a7:=bj (p:=p) hi;have h1:=env.been.cell 0;have h2:=env.tos.cell 0;have h4:=J.cell i;rw[a7,hp] at h4;have h5:=J.free i;simp only[gc] at h1 h2;have c9:aa (fun b=>b≠g) w (w.setCell ⟨g,i,none⟩ (.bool true)):=(aa.refl _ w).setCell (.inl fun h=>h rfl) _;have c4:aa (SV g bo base) w (w.setCell ⟨g,i,none⟩ (.bool true)):=c9.mono fun b hb=>hb.1;have b7:al (w.setCell ⟨g,i,none⟩ (.bool true)) g 4 (az ll.length (nX p i)):=by rw[←dg (p:=p) (i:=i) (b:=true) (dF _ _) (fun j _ hj=>fd hj)];exact J.set _ _
  have b4:=mS.keep b5 c9 env.ne.2.2.2.2.1 env.ne.2.2.2.2.2;have a8:=e0.out.keep c4;have h6:=a8.tos.cell 0;simp only[gc] at h6;have h7:=c4.cell (p:=⟨b1,o1+i,none⟩) h0 e1;have i6:=jj ll.length hi hp;have HF:=J7 c7 a6 rh hp c4 b7 a8;have HL:=J3 hR b4 b6;clear c7 a6 rh hp c4 c9 b7 a8 J e1 h a7 env b5 b4 b6 hR;generalize ll[i]=row at*;go_enter func80,ntmps80;go_wp2_with fail;clear h1 h2 h4 h5 h6 h7
  go_loopg [16] row.length (fun gg x wr=>∃(k:Nat) (q:Nat→Bool) (s:List Nat),k≤row.length∧gg=row.length-k∧x=.int .i64 k∧al wr g 4 (az ll.length q)∧aa (SV g bo base) w wr∧
   (∀k,nX p i k=true→q k=true)∧(∀k,q k=true→p k=true∨aQ ll i k)∧(∀k,q k=true→nX p i k=false→∀j,dH ll k j→q j=true)∧(∀(j:Nat) x,j<k→row[j]? =some x→q x.toNat=true)∧zK ll p q i s∧mS bo base wr (l++s))
  case atStart=>(
 refine⟨0,nX p i,[],by omega,by omega,rfl,HF.2.2.2.2.2.1,HF.2.2.2.2.1,fun _ h=>h,fun k hk=>?_,fun k h1 h2=>(by rw[h1] at h2;cases h2),fun j x hj=>by omega,Hh _ _ _,by rw[List.append_nil];exact HL.2.1⟩;by_cases e:k=i;·subst e;exact .inr .refl
 rw[fd e] at hk;exact .inl hk)
  obtain⟨k,q,s,hk,rfl,rfl,J,Z,o,R,Y,C,b8,e2⟩:=hrel;have d7:=zB HL.1 hi HL.2.2 b8 o R;have HQ:=J4 o R Y C;have HG:=J3 b8 e2 d7;have b9:=zA d7;clear o R Y C b8 e2 d7;have env:=e0.out.keep Z;by_cases c5:k<row.length;·(
 obtain⟨b2,o2,c2,rfl,h8,e3,rfl,i7⟩:=HF.2.2.1 k row[k] (lG c5);have h9:=Z.cell (p:=⟨b2,o2+k,none⟩) h8 e3;obtain⟨x0,x1⟩:=HF.1 row[k] (eL c5);have c8:row[k]∈row:=eL c5;have a7:row[k]? =some row[k]:=lG c5;have HM:=J2 c8 a7;clear c8 a7 e3;generalize row[k]=x at*;obtain⟨j,rfl⟩:∃j:Nat,x=j:=⟨x.toNat,by omega⟩;have e4:j<ll.length:=by omega
 have b0:wr.cell? ⟨g,j,none⟩=some (.bool (q j)):=by rw[J.cell,bj e4]
 have h1:=env.been.cell 0;have h3:=env.visit.cell 0;simp only[gc] at h1 h3;cases b3:q j with
 |true=>
  rw[b3] at b0;have e5:=oH b3;clear b3 b9;go_wp2_with fail;go_roundg (row.length-(k+1));·(
 obtain⟨o,R,Y,C⟩:=HQ.out;refine⟨k+1,q,s,by omega,rfl,by go_num,J,Z,o,R,Y,fun a x ha hx=>?_,HG.1,HG.2.1⟩;by_cases e:a=k
 ·subst e
  rw[HM.2] at hx;cases hx;rw[dP];exact e5.out
 exact C a x (by omega) hx)
  omega
 |false=>
  rw[b3] at b0;have i5:=ly ll.length (fun a _ ha=>HQ.1 a ha);have c0:=IH.out j q (l++s) wr (by omega) e4 b3 env J HG.2.1 HG.2.2;have d8:=oH c0;have e5:=oH b3;clear b3 c0 b9;go_wp2_with fail;refine d8.out.mono ?_;rintro e w' ⟨rfl,e6⟩;have i0:=oH e6;clear e6 b0 h9 h1 h3;go_wp2_with fail;go_roundg (row.length-(k+1));·(
 obtain⟨o,R,Y,C⟩:=HQ.out;obtain⟨q',sj,d9,c6,⟨a1,a2,a3,a4⟩,e7,c3⟩:=i0.out;have a6:dH ll i j:=(HF.2.1 j).2 HM.1;refine⟨k+1,q',s++(sj++[j]),by omega,rfl,by go_num,d9,Z.trans c6,fun a ha=>a1 a (o a ha),fun a ha=>?_,fun a ha hn b hb=>?_,fun a x ha hx=>?_,vT HG.1 o a1 a6 e7,by rw[←jM];exact c3⟩
 ·rcases a3 a ha with h|h
  ·exact R a h
  exact .inr (aQ.head a6 h)
 ·cases e8:q a with
  |true=>exact a1 b (Y a e8 hn b hb)
  |false=>exact a4 a ha e8 b hb
 by_cases e:a=k
 ·subst e
  rw[HM.2] at hx;cases hx;rw[dP];exact a2
 exact a1 _ (C a x (by omega) hx))
  omega)
  have h4:=env.tell.cell 0;simp only[gc] at h4;have i1:=oH (Ej bo base i wr (l++s) HG.2.1 (by omega) (by omega));go_wp2_with (go_at_call 101;refine i1.out.mono ?_;rintro e w' ⟨rfl,c3,c6⟩)
  go_end0
  obtain⟨o,R,Y,C⟩:=HQ.out;refine⟨rfl,q,s,J.kept c6 ⟨env.ne.2.2.2.2.2,env.ne.2.2.2.2.1⟩,Z.trans (c6.mono fun b hb=>hb.2),⟨fun a ha=>o a (je _ _ _ ha),o i (dF _ _),R,fun a ha hn b hb=>?_⟩,zr HG.1 HF.2.2.2.1 (o i (dF _ _)),by rw[←jM];exact c3⟩;by_cases e:a=i;·subst e;have i2:=(HF.2.1 b).1 hb;obtain⟨c,hc,hx⟩:=List.getElem_of_mem i2;have:=C c (b:Int) (by omega) (by rw[lG hc,hx]);rwa [dP] at this
  exact Y a ha (by rw[fd e];exact hn) b hb
def tR (_:Nat)(v:Value)(n:Nat)(w:World):World:=
 (((((w.alloc (.cells #[v] 54)).alloc (.cells #[.func (.func 101) #[] #[]] 152)).alloc (.cells (az n fun _=>false) 4)).alloc (.cells #[.slice (some ⟨w.heap.size+1+1,0,none⟩) n n] 36)).alloc
   (.cells #[.func (.func 80) #[] #[.pointer (some ⟨w.heap.size+1+1+1,0,none⟩),.pointer (some ⟨w.heap.size,0,none⟩),.pointer (some ⟨w.heap.size+1+1+1+1,0,none⟩),.pointer (some ⟨w.heap.size+1,0,none⟩)]] 152))
theorem Bw {v:Value}{ll:List (List Int)}{w:World}{j:Nat}(h:Rows (fun b=>b<w.heap.size∧b≠j) w v ll)(o:j<w.heap.size∨j=w.heap.size+5):
 EF ll v (w.heap.size+1+1+1) w.heap.size (w.heap.size+1+1+1+1) (w.heap.size+1) (w.heap.size+1+1) j (w.heap.size+5) (tR j v ll.length w)∧al (tR j v ll.length w) (w.heap.size+1+1) 4 (az ll.length fun _=>false)∧aa All w (tR j v ll.length w):=by
 have l:aa All w (tR j v ll.length w):=((((kR.alloc _).alloc _).alloc _).alloc _).alloc _;refine⟨⟨?_,?_,?_,?_,?_,by unfold SV;omega⟩,?_,l⟩;·exact(ac (by simp)).alloc _
 ·exact((((al.new _ _ _).alloc _).alloc _).alloc _).alloc _
 ·exact ac (by simp)
 ·exact(((ac (by simp)).alloc _).alloc _).alloc _
 ·exact aq.wide (fun b C=>by unfold SV;omega) (aq.keep l.all h)
 exact((ac (by simp)).alloc _).alloc _
theorem Es (bo:Nat)(v:Value)(ll:List (List Int))(f:Nat)(w:World)(hv:Rows (fun b=>b<w.heap.size∧b≠bo) w v ll)(hR:aP ll)(hf:f<ll.length)(a8:bo<w.heap.size∨bo=w.heap.size+5)(hT:mS bo (w.heap.size+5) (tR bo v ll.length w) []):
 Calls prog 58 #[v,.int .i64 f,.func (.func 101) #[] #[]] w fun e w'=>∃u s,e=.returned u∧aa (fun b=>b≠bo) w w'∧gD (fun b=>w.heap.size≤b) w' u (en ll f)∧mS bo (w.heap.size+5) w' (s++[f])∧jg (dH ll) f s∧(s++[f]).Nodup∧∀x,x∈s++[f]↔aQ ll f x:=by
 have C:=Bw hv a8;obtain⟨a,cap,rfl,h1,h2,b0,h⟩:=hv;have hl:ll.length≤256:=hR.2.1;have R:=LM ll hR _ _ _ _ _ _ _ _ _ f (fun _=>false) [] _ (cf _) hf rfl C.1 C.2.1 hT ⟨List.nodup_nil,fun x hx=>by cases hx⟩;have HR:=J3 hR C R;clear h h1 h2 b0 hR C R hT;have b1:=fun w=>iy ll.length (by omega) w;go_enter func58,ntmps58;go_wp2_with fail;refine HR.2.2.mono ?_;rintro e w' ⟨rfl,q,s,J,l,Y,o,a6⟩;have HA:=J5 J l Y o a6;have Z:=HR.2.1.1.keep l;have hc:=Z.been.cell 0;simp only[gc] at hc;clear J l Y Z o a6;go_wp2_with fail;go_ret;obtain⟨J,l,⟨a1,a2,a3,a4⟩,o,a6⟩:=HA.out;have hk:aa (fun b=>b<w.heap.size∧b≠bo) w w':=HR.2.1.2.2.all.trans (l.mono fun b hb=>by unfold SV;omega);have hq:∀k,q k=true↔aQ ll f k:=fun k=>⟨fun h=>by rcases a3 k h with h|h;cases h;exact h,fun hr=>mq a2 (fun i hi j hj=>a4 i hi rfl j hj) k hr⟩;refine⟨_,s,rfl,⟨hk.os,hk.output,hk.size,fun k a7 hs=>hk.block k a7 ⟨a7,hs⟩⟩,iT J (by omega) hl fun k a7=>nT (hq k),by simpa using a6,o.post,o.nodup,fun x=>by rw[o.mem,hq];simp⟩
structure EG (ll:List (List Int))(v:Value)(bb bt bv bl g bo base:Nat)(w:World):Prop where
 been:al w bb 36 #[.slice (some ⟨g,0,none⟩) ll.length ll.length]
 tos:al w bt 54 #[v]
 visit:al w bv 152 #[.func (.func 80) #[] #[.pointer (some ⟨bb,0,none⟩),.pointer (some ⟨bt,0,none⟩),.pointer (some ⟨bv,0,none⟩),.pointer (some ⟨bl,0,none⟩)]]
 tell:al w bl 152 #[.func (.func 145) #[] #[.pointer (some ⟨bo,0,none⟩)]]
 rows:Rows (SV g bo base) w v ll
 ne:SV g bo base bb∧SV g bo base bt∧SV g bo base bv∧SV g bo base bl∧g<base∧g≠bo
theorem EG.keep {ll:List (List Int)}{v:Value}{bb l o C g j base:Nat}{w J:World}(h:EG ll v bb l o C g j base w)(k:aa (SV g j base) w J):EG ll v bb l o C g j base J:=
 ⟨h.been.kept k h.ne.1,h.tos.kept k h.ne.2.1,h.visit.kept k h.ne.2.2.1,h.tell.kept k h.ne.2.2.2.1,aq.keep k h.rows,h.ne⟩
theorem LN (ll:List (List Int))(hR:aP ll)(v:Value)(bb bt bv bl g bo base:Nat)(m:Nat):∀(i:Nat) (p:Nat→Bool) (l:List Nat) (w:World),ph ll.length p≤m→i<ll.length→p i=false→EG ll v bb bt bv bl g bo base w→al w g 4 (az ll.length p)→mT bo base w l→xH ll.length p l→
 Calls prog 80 #[.int .i64 i,.pointer (some ⟨bb,0,none⟩),.pointer (some ⟨bt,0,none⟩),.pointer (some ⟨bv,0,none⟩),.pointer (some ⟨bl,0,none⟩)] w fun e w'=>
  e=.returned (.tuple #[])∧∃q s,al w' g 4 (az ll.length q)∧aa (SV g bo base) w w'∧Kv ll p q i∧Ih ll p q i s∧mT bo base w' (l++(s++[i])):=by
 induction m with
 |zero=>intro i p l w hm hi hp;have:=jj ll.length hi hp;omega
 |succ m ih=>
  intro i p l w hm hi hp env J b5 b6;have IH:=oH ih;clear ih;have hl:ll.length≤256:=hR.2.1;have c7:=gw hR hi;have a6:=fun j=>kQ (ll:=ll) (j:=j) hi;have e9:ll[i].length≤256:=by have:=du (hR.2.2 _ (eL hi));omega
  have e0:=oH env;obtain⟨a,cap,rfl,_,_,_,h⟩:=env.rows;obtain⟨b1,o1,c1,rfl,h0,e1,ra,i4,rfl,_,_,_,rh⟩:=h i ll[i] (lG hi);have a7:=bj (p:=p) hi;have h1:=env.been.cell 0;have h2:=env.tos.cell 0;have h4:=J.cell i;rw[a7,hp] at h4;have h5:=J.free i;simp only[gc] at h1 h2;have c9:aa (fun b=>b≠g) w (w.setCell ⟨g,i,none⟩ (.bool true)):=(aa.refl _ w).setCell (.inl fun h=>h rfl) _;have c4:aa (SV g bo base) w (w.setCell ⟨g,i,none⟩ (.bool true)):=c9.mono fun b hb=>hb.1;have b7:al (w.setCell ⟨g,i,none⟩ (.bool true)) g 4 (az ll.length (nX p i)):=by rw[←dg (p:=p) (i:=i) (b:=true) (dF _ _) (fun j _ hj=>fd hj)];exact J.set _ _
  have b4:=mT.keep b5 c9 env.ne.2.2.2.2.1 env.ne.2.2.2.2.2;have a8:=e0.out.keep c4;have h6:=a8.tos.cell 0;simp only[gc] at h6;have h7:=c4.cell (p:=⟨b1,o1+i,none⟩) h0 e1;have i6:=jj ll.length hi hp;have HF:=J7 c7 a6 rh hp c4 b7 a8;have HL:=J3 hR b4 b6;clear c7 a6 rh hp c4 c9 b7 a8 J e1 h a7 env b5 b4 b6 hR;generalize ll[i]=row at*;go_enter func80,ntmps80;go_wp2_with fail;clear h1 h2 h4 h5 h6 h7
  go_loopg [16] row.length (fun gg x wr=>∃(k:Nat) (q:Nat→Bool) (s:List Nat),k≤row.length∧gg=row.length-k∧x=.int .i64 k∧al wr g 4 (az ll.length q)∧aa (SV g bo base) w wr∧
   (∀k,nX p i k=true→q k=true)∧(∀k,q k=true→p k=true∨aQ ll i k)∧(∀k,q k=true→nX p i k=false→∀j,dH ll k j→q j=true)∧(∀(j:Nat) x,j<k→row[j]? =some x→q x.toNat=true)∧zK ll p q i s∧mT bo base wr (l++s))
  case atStart=>(
 refine⟨0,nX p i,[],by omega,by omega,rfl,HF.2.2.2.2.2.1,HF.2.2.2.2.1,fun _ h=>h,fun k hk=>?_,fun k h1 h2=>(by rw[h1] at h2;cases h2),fun j x hj=>by omega,Hh _ _ _,by rw[List.append_nil];exact HL.2.1⟩;by_cases e:k=i;·subst e;exact .inr .refl
 rw[fd e] at hk;exact .inl hk)
  obtain⟨k,q,s,hk,rfl,rfl,J,Z,o,R,Y,C,b8,e2⟩:=hrel;have d7:=zB HL.1 hi HL.2.2 b8 o R;have HQ:=J4 o R Y C;have HG:=J3 b8 e2 d7;have b9:=zA d7;clear o R Y C b8 e2 d7;have env:=e0.out.keep Z;by_cases c5:k<row.length;·(
 obtain⟨b2,o2,c2,rfl,h8,e3,rfl,i7⟩:=HF.2.2.1 k row[k] (lG c5);have h9:=Z.cell (p:=⟨b2,o2+k,none⟩) h8 e3;obtain⟨x0,x1⟩:=HF.1 row[k] (eL c5);have c8:row[k]∈row:=eL c5;have a7:row[k]? =some row[k]:=lG c5;have HM:=J2 c8 a7;clear c8 a7 e3;generalize row[k]=x at*;obtain⟨j,rfl⟩:∃j:Nat,x=j:=⟨x.toNat,by omega⟩;have e4:j<ll.length:=by omega
 have b0:wr.cell? ⟨g,j,none⟩=some (.bool (q j)):=by rw[J.cell,bj e4]
 have h1:=env.been.cell 0;have h3:=env.visit.cell 0;simp only[gc] at h1 h3;cases b3:q j with
 |true=>
  rw[b3] at b0;have e5:=oH b3;clear b3 b9;go_wp2_with fail;go_roundg (row.length-(k+1));·(
 obtain⟨o,R,Y,C⟩:=HQ.out;refine⟨k+1,q,s,by omega,rfl,by go_num,J,Z,o,R,Y,fun a x ha hx=>?_,HG.1,HG.2.1⟩;by_cases e:a=k
 ·subst e
  rw[HM.2] at hx;cases hx;rw[dP];exact e5.out
 exact C a x (by omega) hx)
  omega
 |false=>
  rw[b3] at b0;have i5:=ly ll.length (fun a _ ha=>HQ.1 a ha);have c0:=IH.out j q (l++s) wr (by omega) e4 b3 env J HG.2.1 HG.2.2;have d8:=oH c0;have e5:=oH b3;clear b3 c0 b9;go_wp2_with fail;refine d8.out.mono ?_;rintro e w' ⟨rfl,e6⟩;have i0:=oH e6;clear e6 b0 h9 h1 h3;go_wp2_with fail;go_roundg (row.length-(k+1));·(
 obtain⟨o,R,Y,C⟩:=HQ.out;obtain⟨q',sj,d9,c6,⟨a1,a2,a3,a4⟩,e7,c3⟩:=i0.out;have a6:dH ll i j:=(HF.2.1 j).2 HM.1;refine⟨k+1,q',s++(sj++[j]),by omega,rfl,by go_num,d9,Z.trans c6,fun a ha=>a1 a (o a ha),fun a ha=>?_,fun a ha hn b hb=>?_,fun a x ha hx=>?_,vT HG.1 o a1 a6 e7,by rw[←jM];exact c3⟩
 ·rcases a3 a ha with h|h
  ·exact R a h
  exact .inr (aQ.head a6 h)
 ·cases e8:q a with
  |true=>exact a1 b (Y a e8 hn b hb)
  |false=>exact a4 a ha e8 b hb
 by_cases e:a=k
 ·subst e
  rw[HM.2] at hx;cases hx;rw[dP];exact a2
 exact a1 _ (C a x (by omega) hx))
  omega)
  have h4:=env.tell.cell 0;simp only[gc] at h4;have i1:=oH (Ek bo base i wr (l++s) HG.2.1 (by omega) (by omega));go_wp2_with (go_at_call 145;refine i1.out.mono ?_;rintro e w' ⟨rfl,c3,c6⟩)
  go_end0
  obtain⟨o,R,Y,C⟩:=HQ.out;refine⟨rfl,q,s,J.kept c6 ⟨env.ne.2.2.2.2.2,env.ne.2.2.2.2.1⟩,Z.trans (c6.mono fun b hb=>hb.2),⟨fun a ha=>o a (je _ _ _ ha),o i (dF _ _),R,fun a ha hn b hb=>?_⟩,zr HG.1 HF.2.2.2.1 (o i (dF _ _)),by rw[←jM];exact c3⟩;by_cases e:a=i;·subst e;have i2:=(HF.2.1 b).1 hb;obtain⟨c,hc,hx⟩:=List.getElem_of_mem i2;have:=C c (b:Int) (by omega) (by rw[lG hc,hx]);rwa [dP] at this
  exact Y a ha (by rw[fd e];exact hn) b hb
def qL (bo:Nat)(v:Value)(n:Nat)(w:World):World:=
 (((((w.alloc (.cells #[v] 54)).alloc (.cells #[.func (.func 145) #[] #[.pointer (some ⟨bo,0,none⟩)]] 152)).alloc (.cells (az n fun _=>false) 4)).alloc (.cells #[.slice (some ⟨w.heap.size+1+1,0,none⟩) n n] 36)).alloc
   (.cells #[.func (.func 80) #[] #[.pointer (some ⟨w.heap.size+1+1+1,0,none⟩),.pointer (some ⟨w.heap.size,0,none⟩),.pointer (some ⟨w.heap.size+1+1+1+1,0,none⟩),.pointer (some ⟨w.heap.size+1,0,none⟩)]] 152))
theorem Bx {v:Value}{ll:List (List Int)}{w:World}{j:Nat}(h:Rows (fun b=>b<w.heap.size∧b≠j) w v ll)(o:j<w.heap.size∨j=w.heap.size+5):
 EG ll v (w.heap.size+1+1+1) w.heap.size (w.heap.size+1+1+1+1) (w.heap.size+1) (w.heap.size+1+1) j (w.heap.size+5) (qL j v ll.length w)∧al (qL j v ll.length w) (w.heap.size+1+1) 4 (az ll.length fun _=>false)∧aa All w (qL j v ll.length w):=by
 have l:aa All w (qL j v ll.length w):=((((kR.alloc _).alloc _).alloc _).alloc _).alloc _;refine⟨⟨?_,?_,?_,?_,?_,by unfold SV;omega⟩,?_,l⟩;·exact(ac (by simp)).alloc _
 ·exact((((al.new _ _ _).alloc _).alloc _).alloc _).alloc _
 ·exact ac (by simp)
 ·exact(((ac (by simp)).alloc _).alloc _).alloc _
 ·exact aq.wide (fun b C=>by unfold SV;omega) (aq.keep l.all h)
 exact((ac (by simp)).alloc _).alloc _
theorem Et (bo:Nat)(v:Value)(ll:List (List Int))(f:Nat)(w:World)(hv:Rows (fun b=>b<w.heap.size∧b≠bo) w v ll)(hR:aP ll)(hf:f<ll.length)(a8:bo<w.heap.size∨bo=w.heap.size+5)(hT:mT bo (w.heap.size+5) (qL bo v ll.length w) []):
 Calls prog 58 #[v,.int .i64 f,.func (.func 145) #[] #[.pointer (some ⟨bo,0,none⟩)]] w fun e w'=>∃u s,e=.returned u∧aa (fun b=>b≠bo) w w'∧gD (fun b=>w.heap.size≤b) w' u (en ll f)∧mT bo (w.heap.size+5) w' (s++[f])∧jg (dH ll) f s∧(s++[f]).Nodup∧∀x,x∈s++[f]↔aQ ll f x:=by
 have C:=Bx hv a8;obtain⟨a,cap,rfl,h1,h2,b0,h⟩:=hv;have hl:ll.length≤256:=hR.2.1;have R:=LN ll hR _ _ _ _ _ _ _ _ _ f (fun _=>false) [] _ (cf _) hf rfl C.1 C.2.1 hT ⟨List.nodup_nil,fun x hx=>by cases hx⟩;have HR:=J3 hR C R;clear h h1 h2 b0 hR C R hT;have b1:=fun w=>iy ll.length (by omega) w;go_enter func58,ntmps58;go_wp2_with fail;refine HR.2.2.mono ?_;rintro e w' ⟨rfl,q,s,J,l,Y,o,a6⟩;have HA:=J5 J l Y o a6;have Z:=HR.2.1.1.keep l;have hc:=Z.been.cell 0;simp only[gc] at hc;clear J l Y Z o a6;go_wp2_with fail;go_ret;obtain⟨J,l,⟨a1,a2,a3,a4⟩,o,a6⟩:=HA.out;have hk:aa (fun b=>b<w.heap.size∧b≠bo) w w':=HR.2.1.2.2.all.trans (l.mono fun b hb=>by unfold SV;omega);have hq:∀k,q k=true↔aQ ll f k:=fun k=>⟨fun h=>by rcases a3 k h with h|h;cases h;exact h,fun hr=>mq a2 (fun i hi j hj=>a4 i hi rfl j hj) k hr⟩;refine⟨_,s,rfl,⟨hk.os,hk.output,hk.size,fun k a7 hs=>hk.block k a7 ⟨a7,hs⟩⟩,iT J (by omega) hl fun k a7=>nT (hq k),by simpa using a6,o.post,o.nodup,fun x=>by rw[o.mem,hq];simp⟩
section
section
variable {ll:List (List Int)}
noncomputable def gF (ll:List (List Int)):List (List Int):=(List.range ll.length).map (di ll ll.length)
theorem fK:(gF ll).length=ll.length:=by simp[gF]
theorem mX {k:Nat}(h:k<ll.length):(gF ll)[k]? =some (di ll ll.length k):=by simp[gF,h]
theorem EU (j:aP ll){a b:Nat}(h:dH ll a b):b<ll.length:=by obtain⟨row,l,o⟩:=h;have:=(j.2.2 row (mG l)).1 _ o;omega
theorem uG (l:aP ll){a b:Nat}:dH (gF ll) a b↔dH ll b a:=by
 constructor
 ·rintro⟨row,j,o⟩;have C:a<ll.length:=by have:=(lS.1 j).1;rwa [fK] at this
  rw[mX C] at j;cases j;obtain⟨c,e,_,J⟩:=jc.1 o;rw[Int.ofNat.inj e];exact J
 exact fun h=>⟨_,mX (EU l h),jc.2 ⟨b,rfl,lq h,h⟩⟩
theorem xM (l:aP ll){a b:Nat}:aQ (gF ll) a b↔aQ ll b a:=by
 constructor
 ·intro h
  induction h with
  |refl=>exact .refl
  |step _ e j=>exact .head ((uG l).1 e) j
 intro h;induction h with
 |refl=>exact .refl
 |step _ e j=>exact .head ((uG l).2 e) j
theorem xN (j:aP ll):aP (gF ll):=by refine⟨by rw[fK];exact j.1,by rw[fK];exact j.2.1,fun row l=>?_⟩;obtain⟨k,_,rfl⟩:=dr.1 l;refine⟨fun x o=>?_,(tx _ _).imp fun h=>by omega⟩;obtain⟨a,rfl,C,_⟩:=jc.1 o;rw[fK];omega
open Classical in
noncomputable def lr (ll:List (List Int))(i k:Nat):Bool:=decide (∃e,e<i∧ll[e]? =some []∧aQ ll k e)
theorem KV:lr ll 0=fun _=>false:=by funext k;simp[lr]
open Classical in
theorem IG {i:Nat}{row:List Int}(h:ll[i]? =some row)(l:1≤row.length):lr ll (i+1)=lr ll i:=by
 funext k;unfold lr;rw[Bool.eq_iff_iff,iH,iH];constructor
 ·rintro⟨e,he,j,o⟩
  by_cases hi:e=i;·subst hi;rw[h] at j;cases j;simp at l
  exact⟨e,by omega,j,o⟩
 rintro⟨e,he,h⟩;exact⟨e,by omega,h⟩
open Classical in
theorem Fz {i:Nat}(o:aP ll)(h:ll[i]? =some [])(k:Nat):lr ll (i+1) k=(lr ll i k||ay (gF ll) i k):=by
 unfold lr;rw[Bool.eq_iff_iff,iH,Bool.or_eq_true,iH,aY,xM o];constructor
 ·rintro⟨e,he,j,l⟩
  by_cases hi:e=i;·subst hi;exact .inr l
  exact .inl ⟨e,by omega,j,l⟩
 rintro(⟨e,he,j⟩|j);·exact⟨e,by omega,j⟩
 exact⟨i,by omega,h,j⟩
noncomputable def pz (ll:List (List Int))(i m k:Nat):Bool:=if k<m then lr ll i k||ay (gF ll) i k else lr ll i k
theorem KW (i:Nat):pz ll i 0=lr ll i:=by funext k;simp[pz]
theorem IJ (i m:Nat):pz ll i m m=lr ll i m:=by simp[pz]
theorem CP (i m:Nat):pz ll i (m+1) m=(lr ll i m||ay (gF ll) i m):=by simp[pz]
theorem IK {i m k:Nat}(h:k≠m):pz ll i (m+1) k=pz ll i m k:=by
 unfold pz;by_cases j:k<m;·rw[ap j,ap (by omega)]
 rw[ae j,ae (by omega)]
theorem FA {i:Nat}(j:aP ll)(h:ll[i]? =some []){k:Nat}(l:k<ll.length):pz ll i ll.length k=lr ll (i+1) k:=by rw[Fz j h];simp[pz,l]
open Classical in
theorem De:qx ((List.range ll.length).map (lr ll ll.length))=cV (iN ll) ll.length:=by
 unfold qx;rw[ce,List.length_range];refine pL fun k o=>?_;have:((List.range ll.length).map (lr ll ll.length))[k]? =some (lr ll ll.length k):=by simp[o]
 rw[this,Option.some.injEq];unfold lr iN;rw[decide_eq_false_iff_not];constructor
 ·rintro h
  refine⟨o,fun⟨e,l,j⟩=>h ⟨e,(lS.1 j).1,j,l⟩⟩
 rintro⟨_,h⟩ ⟨e,_,l,j⟩;exact h ⟨e,j,l⟩
structure mz (ll:List (List Int))(t:Nat→Int)(pl:Nat→Nat):Prop where
 ord:zJ (dH ll) ll.length pl
 good:fU ll.length pl t
 all:∀j,j<ll.length→my t j
 dom:∀j,j<ll.length→∀x,ig t j x↔¬gA (dH ll) x j
def lV (n:Nat)(t:Nat→Int):List Int:=(List.range n).map t
theorem nW (n:Nat)(t:Nat→Int):(lV n t).length=n:=by simp[lV]
theorem tQ {n:Nat}{t:Nat→Int}{k:Nat}(h:k<n):(lV n t)[k]? =some (t k):=by simp[lV,h]
theorem mz.up {t:Nat→Int}{pl:Nat→Nat}(T:mz ll t pl){j:Nat}(l:j<ll.length)(o:j≠0):∃p:Nat,t j=p∧p<ll.length∧pl p<pl j:=by
 rcases T.all j l with h|h;·exact absurd h o
 obtain⟨p,C,J,R,_⟩:=T.good.low j l h;exact⟨p,C,J,R⟩
def oJ (n:Nat)(t:Nat→Int)(j:Nat):List Nat:=kp t n j
theorem zP {t:Nat→Int}{pl:Nat→Nat}(T:mz ll t pl){j x:Nat}(l:j<ll.length):x∈oJ ll.length t j↔¬gA (dH ll) x j:=by rw[oJ,uM T.good x _ j l (Nat.le_of_lt (T.ord.lt j l)),T.dom j l]
end
end
end Go.Proofs.YtncdbjponknakaaGreatDoor
