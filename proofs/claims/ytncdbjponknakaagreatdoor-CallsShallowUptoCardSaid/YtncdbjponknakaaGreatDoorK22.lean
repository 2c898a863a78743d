/- Part 23 of the proof of CallsShallow (its last part says what is proved). No condition. -/
import Derived.Test.YtncdbjponknakaaGreatDoorK21
namespace Go.Proofs.YtncdbjponknakaaGreatDoor
set_option maxRecDepth 100000
set_option maxHeartbeats 8000000
open Go.RowKit Go.Proofs.Tryz
theorem OE (n:Nat)(Y:n≤1048576)(w:World):(Instr.makeSlice 54 (.int .i64 n) (.int .i64 n)).run prog w=.ok (.slice (some ⟨w.heap.size,0,none⟩) n n) (w.alloc (.cells (dM n fun _=>.slice none 0 0) 45)):=by
 obtain⟨l,hi,C,J,R⟩:=info_parts Qr;rw[run_make (P:=prog) w 54 45 l (.slice none 0 0) underlying54 hi C .i64 .i64 n n (by omega) (by omega) (by rw[R];omega) (by omega)];have e:madeCells (Value.slice none 0 0).cells ((n:Int).toNat*l.size)=dM n fun _=>.slice none 0 0:=by(
 rw[J,dP,Nat.mul_one];apply Array.ext_getElem?;intro j;by_cases o:j<n;·rw[cq o];simp[madeCells,o,Value.cells,Nat.mod_one]
 rw[jK (by rw[size_madeCells];omega),jK (by rw[ew];omega)])
 rw[e,dP]
structure ii (N B g:Nat)(w:World)(F:Nat→Value)(R:Nat→List Int):Prop where
 tab:al w g 45 (dM N F)
 low:g<B
 own:∀k,k<N→w.ownsRow B 3 1 (F k) (R k).length (aI (R k))
 apart:∀k k' b,k<N→k'<N→k≠k'→(F k).ownBlock=some b→(F k').ownBlock≠some b
theorem ii.step {N B g k:Nat}{w w2:World}{F:Nat→Value}{R R':Nat→List Int}{v2:Value}{o:Obj}{x:Int}(h:ii N B g w F R)(hk:k<N)(Z:w2.ownsRow B 3 1 v2 ((R k).length+1) (aI (R k)++[.int .i64 x]))
 (hg:(w.alloc o).grownBy w2 (F k).ownBlock) (a6:v2.ownBlock=(F k).ownBlock∨v2.ownBlock=some (w.alloc o).heap.size) (hR:R' k=R k++[x]) (b0:∀j,j≠k→R' j=R j):
 ii N B g (w2.setCell ⟨g,k,none⟩ v2) (qd F k v2) R':=by
 have a7:=h.low;have a8:aa (fun b=>(F k).ownBlock≠some b) w w2:=((aa.refl _ w).alloc o).grown hg fun b l=>.inl fun h=>h l;have a1:aa (fun b=>b≠g) w2 (w2.setCell ⟨g,k,none⟩ v2):=(aa.refl _ w2).setCell (p:=⟨g,k,none⟩) (.inl fun h=>h rfl) _;refine⟨?_,a7,fun j hj=>?_,fun j j' b hj J Y l=>?_⟩
 ·rw[←jo]
  exact(h.tab.kept a8 (fun e=>by have:=(aD (h.own k hk) e).1;omega)).set _ _
 ·by_cases e:j=k
  ·subst e
   rw[jd,hR];have:=be Z a1 fun b l=>by have:=(aD Z l).1;show b≠g;omega
   simpa [aI] using this
  rw[li e,b0 j e];have C:=h.own j hj;refine be (be C a8 fun b l=>h.apart j k b hj hk e l) a1 fun b l=>?_;have:=(aD C l).1;show b≠g;omega
 by_cases e:j=k
 ·subst e;rw[jd] at l;rw[li (fun x=>Y x.symm)];rcases a6 with C|C;·rw[C] at l;exact h.apart j j' b hj J Y l
  rw[C] at l;intro h2;have:=(aD (h.own j' J) h2).2;simp at l;omega
 rw[li e] at l;by_cases e':j'=k
 ·subst e';rw[jd];rcases a6 with C|C;·rw[C];exact h.apart j j' b hj J Y l
  rw[C];intro h2;have:=(aD (h.own j hj) l).2;simp at h2;omega
 rw[li e'];exact h.apart j j' b hj J Y l
theorem sd (S:Nat→Prop)(v:Value)(ll:List (List Int))(w:World)(hv:Rows S w v ll)(hR:aP ll):
 Calls prog 71 #[v] w fun e w'=>∃u,e=.returned u∧aa All w w'∧Rows (fun b=>w.heap.size≤b) w' u ((List.range ll.length).map (di ll ll.length)):=by
 have Z:=gt S v ll w hv;rw[bL hR] at Z;have hl:ll.length≤256:=hR.2.1;have d8:=hv;obtain⟨A,cap,rfl,h1,h2,h5,h⟩:=hv;obtain⟨i3,d9,e0,e1,e2⟩:=info_parts yw;have I3:=J4 d9 e0 e1 e2;have HR:=J3 Z hR d8;clear Z hR d8 h h1 h2 h5 d9 e0 e1 e2;have i1:=fun w=>OE ll.length (by omega) w;go_enter func71,ntmps71;go_wp2_with fail;refine HR.1.mono ?_;rintro e Y ⟨rfl,e4⟩;have HK:=oH e4;clear e4;go_wp2_with fail;go_loopg [17] ll.length (fun g i wr=>∃(i':Nat) (F:Nat→Value),i'≤ll.length∧g=ll.length-i'∧i=.int .i64 i'∧aa All Y wr∧Y.heap.size<wr.heap.size∧ii ll.length (Y.heap.size+1) Y.heap.size wr F (fun k=>di ll i' k))
 case atStart=>refine⟨0,fun _=>.slice none 0 0,by omega,by omega,rfl,kR.alloc _,by simp,al.new _ _ _,by omega,fun k hk=>⟨rfl,.inl ⟨rfl,rfl⟩⟩,fun k k' b _ _ _ h=>by cases h⟩
 obtain⟨i,F,hi,rfl,rfl,o,b8,C⟩:=hrel;have HT:=J2 o C;clear o C;by_cases h6:i<ll.length;·(
 obtain⟨row,b9⟩:=eG h6;have b4:eV ll.length row:=HR.2.1.2.2 row (mG b9);have i2:=du b4;obtain⟨A',cc,h7,_,_,_,b0⟩:=HR.2.2;cases h7;obtain⟨b1,o1,c1,rfl,i4,e5,A3,c3,rfl,r1,r2,_,rh⟩:=b0 i row b9;have e6:=(HK.out.trans HT.1).cell (p:=⟨b1,o1+i,none⟩) trivial e5;have b3:=J3 b9 b4 rh;clear b9 b4 rh e5 b0 r1 r2;go_wp2_with fail;clear e6;obtain⟨wo,rfl⟩:=eQ wr;go_loopg [24] row.length (fun g m wr=>∃(m':Nat) (F:Nat→Value),m'≤row.length∧g=row.length-m'∧m=.int .i64 m'∧aa All Y wr∧Y.heap.size<wr.heap.size∧ii ll.length (Y.heap.size+1) Y.heap.size wr F (fun k=>gS ll row i m' k));·exact⟨0,F,by omega,by omega,rfl,HT.1,b8,by simpa only[GM] using HT.2⟩
 clear HT b8;obtain⟨m,F,hm,rfl,rfl,o,b8,C⟩:=hrel;by_cases R:m<row.length;·(
 obtain⟨b2,o2,c2,rfl,i5,e7,rfl,h8⟩:=b3.2.2 m row[m] (lG R);have h9:=(HK.out.trans o).cell (p:=⟨b2,o2+m,none⟩) trivial e7;obtain⟨y0,y1⟩:=b3.2.1.1 row[m] (eL R);obtain⟨q,hq⟩:∃q:Nat,row[m]=q:=⟨row[m].toNat,by omega⟩;have b5:q<ll.length:=by omega
 have c4:=AO (ll:=ll) (i:=i) R b3.2.1.2 hq;have e8:=fun j hj=>DK (ll:=ll) (i:=i) (j:=j) R hq hj;rw[hq] at h9;have J:=C.tab.cell q;rw[cq b5] at J;have c5:=C.own q b5;have e9:=AN (ll:=ll) row i m q;have a6:(wr.alloc (.cells #[.int .i64 i] 3)).ownsRow (Y.heap.size+1) 3 1 (F q) (gS ll row i m q).length (aI (gS ll row i m q)):=be c5 ((aa.refl All wr).alloc _) (fun _ _=>trivial);have HT:=J4 o C c4 e8;clear o C c4 e8 hq y0 y1 e7 h8 c5;go_wp2_with (
  at_builtin;refine aR _ rfl (.tmp 33) (.tmp 35) 45 rfl (Y.heap.size+1) 3 i3 _ 1 8 underlying45 I3.1 I3.2.1 I3.2.2.1 I3.2.2.2 rfl (by decide) _ _ _ rfl a6 (some ⟨wr.heap.size,0,none⟩) 1 1 [.int .i64 i] rfl rfl ?_ ?_ (by unfold maxLen;omega) (by omega) (by simp;omega) ?_;·intro _;exact⟨_,_,rfl,fun j u hu=>by rw[cN,al.cell (al.new _ _ _)];simpa using hu⟩
  ·intro u hu
   rw[cx.1 hu];rfl
  intro v2 w2 a7 c0 c6;obtain⟨A2,c2,rfl⟩:=aU a7;have c9:aa (fun b=>(F q).ownBlock≠some b) wr w2:=((aa.refl _ wr).alloc _).grown c0 fun g hg=>.inl fun h=>h hg;have a8:=HT.2.1.tab.kept c9 (fun e=>by have:=(aD (HT.2.1.own q b5) e).1;omega);have J:=a8.cell q;rw[cq b5] at J;have d7:=a8.free q;have i0:=c9.size;have b6:=HT.2.1.step b5 a7 c0 c6 HT.2.2.1 HT.2.2.2;have h0:aa All Y w2:=(HT.1.alloc _).grown c0 fun g hg=>.inr (by have:=(aD a6 hg).1;omega);have HS:=J2 b6 h0;clear a7 c0 c6 c9 a8 b6 h0 a6)
 go_roundg (row.length-(m+1));·exact⟨m+1,qd F q _,by omega,rfl,by go_num,HS.2.setCell (p:=⟨Y.heap.size,q,none⟩) (.inr (cf _)) _,by simp;omega,HS.1⟩
 omega)
 obtain rfl:m=row.length:=by omega
 have HT:=J2 o C;clear o C;go_wp2_with fail;go_roundg (ll.length-(i+1));·exact⟨i+1,F,by omega,rfl,by go_num,HT.1,b8,by simpa only[yT b3.1] using HT.2⟩
 omega)
 obtain rfl:i=ll.length:=by omega
 have hints:∀k,k<ll.length→aK (fun b=>Y.heap.size<b) wr (F k) (di ll ll.length k):=fun k hk=>by have h:=HT.2.own k hk;have e9:=vN (ll:=ll) ll.length k;exact jr h rfl (by omega) (fun g hg=>(aD h hg).1) fun x hx=>by obtain⟨a,rfl,ha,_⟩:=jc.1 hx;exact WalkArith.wf_i64 (by omega)
 have HI:=J3 HT.1 HT.2.tab hints;clear HT hints;go_wp2_with fail;obtain⟨wo,rfl⟩:=eQ wr;go_loopg [42] ll.length (fun g i wr=>∃(j:Nat) (F:Nat→Value),j≤ll.length∧g=ll.length-j∧i=.int .i64 j∧aa All Y wr∧al wr Y.heap.size 45 (dM ll.length F)∧∀k,k<ll.length→aK (fun b=>Y.heap.size<b) wr (F k) (di ll ll.length k));·exact⟨0,F,by omega,by omega,rfl,HI.out⟩
 clear HI;obtain⟨j,F,hj,rfl,rfl,o,a1,hints⟩:=hrel;have HI:=J3 o a1 hints;by_cases R:j<ll.length
 ·have J:=a1.cell j;rw[cq R] at J;have d7:=a1.free j;have hint:=hints j R;obtain⟨A2,h3,hF,r1,r2,r3,r4⟩:=hint;rw[hF] at J;have b7:=st A2 (di ll ll.length j).length h3 wr r1 (by unfold maxLen at r2;omega);have c7:aK (fun b=>Y.heap.size<b) wr (.slice A2 (di ll ll.length j).length (di ll ll.length j).length) (di ll ll.length j):=⟨A2,_,rfl,cf _,fR r1 r2,r3,r4⟩;have HC:=J2 b7 c7;clear o a1 hints hF b7 c7 r1 r2 r3 r4;go_wp2_with (go_at_call 27;refine HC.1.mono ?_;rintro e w' ⟨rfl,rfl⟩);go_roundg (ll.length-(j+1))
  ·have c8:aa (fun b=>Y.heap.size<b) wr (wr.setCell ⟨Y.heap.size,j,none⟩ (.slice A2 (di ll ll.length j).length (di ll ll.length j).length)):=(aa.refl _ wr).setCell (p:=⟨Y.heap.size,j,none⟩) (.inl (Nat.lt_irrefl _)) _;refine⟨j+1,qd F j (.slice A2 (di ll ll.length j).length (di ll ll.length j).length),by omega,rfl,by go_num,HI.1.setCell (p:=⟨Y.heap.size,j,none⟩) (.inr (cf _)) _,?_,fun k hk=>?_⟩;·rw[←jo];exact HI.2.1.set _ _
   by_cases e:k=j;·subst e;rw[jd];exact ah.keep c8 HC.2
   rw[li e];exact ah.keep c8 (HI.2.2 k hk)
  omega
 obtain rfl:j=ll.length:=by omega
 clear o a1 hints;go_wp2_with fail;go_ret;refine⟨_,rfl,HK.out.trans HI.1,?_⟩;have h4:=HK.out.size;have e3:((List.range ll.length).map (di ll ll.length)).length=ll.length:=by simp
 have:=Sl.of_blk (bw:=24) (E:=Sl 8 rQ) (S:=fun b=>w.heap.size≤b) (l:=(List.range ll.length).map (di ll ll.length)) (cap:=ll.length) HI.2.1 h4 (by rw[e3];omega) (by unfold maxLen;omega) (by rw[e3];omega) (fun i x hx=>by
  have hi:i<ll.length:=by(
 rcases Nat.lt_or_ge i ll.length with h|h;·exact h
 rw[jz (by rw[e3];omega)] at hx;cases hx)
  rw[cL,ln hi] at hx;cases hx;exact⟨F i,cq hi,ah.wide (fun b hb=>by omega) (HI.2.2 i hi)⟩)
 rwa [e3] at this
theorem xk (g n c:Nat)(t:TypeId)(cs:Array Value)(w:World)(hb:al w g t cs)(hn:n≤cs.size)(h1:1≤n)(h2:n≤256)(_:n≤c)(a1:∀m,m<n→∃x,cs[m]? =some (.int .i64 x)):
 Calls prog 146 #[.slice (some ⟨g,0,none⟩) n c] w fun e w'=>e=.returned (.tuple #[])∧aa (fun b=>b≠g) w w'∧∃C,al w' g t C∧∀m,m<n→C[m]? =cs[n-1-m]?:=by
 have HB:=oH hb;have HS:=oH a1;clear hb a1;have hl:n≤9223372036854775807:=by omega
 go_enter func146,ntmps146;go_wp2;go_loopg [2,3] n (fun gg i j wr=>∃(k:Nat) (C:Array Value),k≤n∧gg=n-k∧i=.int .i64 k∧j=.int .i64 ((n:Int)-1-k)∧aa (fun b=>b≠g) w wr∧al wr g t C∧lm n k cs C);·exact⟨0,cs,by omega,by omega,rfl,by go_num,kR,HB.out,rfl,fun m hm=>by rw[ae (by omega)]⟩
 obtain⟨k,C,hk,rfl,rfl,rfl,o,l,J⟩:=hrel;by_cases a6:k+k+1<n;·(
 have a7:C.size=cs.size:=J.1;obtain⟨x1,R⟩:=HS.out (n-1-k) (by omega);obtain⟨x2,Y⟩:=HS.out k (by omega);rw[←J.mid (by omega) (by omega)] at R;rw[←J.mid (by omega) (by omega)] at Y;have e:((n:Int)-1-k)=((n-1-k:Nat):Int):=by omega
 obtain⟨j,Z⟩:=eQ (n-1-k);rw[e,←Z];rw[←Z] at R;have c1:=l.cell j;have c2:=l.cell k;have f1:=l.free j;have f2:=l.free k;rw[R] at c1;rw[Y] at c2;have a8:k<j:=by omega
 have b0:j<n:=by omega
 have HT:=J6 l J R Y Z o;clear l J R Y o Z e;go_wp2_with fail
 go_region
 go_wp2;go_roundg (n-(k+1))
 ·obtain⟨l,J,R,Y,Z,o⟩:=HT.out;subst Z;refine⟨k+1,(C.setIfInBounds k (.int .i64 x1)).setIfInBounds (n-1-k) (.int .i64 x2),by omega,rfl,by go_num,by go_num,?_,?_,J.step a6 hn R Y⟩;·exact((o.setCell (.inl fun h=>h rfl) _).setCell (.inl fun h=>h rfl) _).drew
  exact((l.set k _).set (n-1-k) _).drew
 omega)
 go_wp2
 go_end0
 exact⟨rfl,o,C,l,fun m hm=>J.full (by omega) m hm⟩
structure Cw (ll:List (List Int))(ord:List Nat):Prop where
 op:zJ (dH ll) ll.length (fun x=>ord.idxOf x)
 len:ord.length=ll.length
 zero:ord[0]? =some 0
 at':∀(m:Nat) x,ord[m]? =some x→ord.idxOf x=m
 lt:∀x∈ord,x<ll.length
theorem JB {ll:List (List Int)}(l:aP ll){s:List Nat}(h:jg (dH ll) 0 s)(o:(s++[0]).Nodup)(hm:∀x,x∈s++[0]↔aQ ll 0 x)(C:∀k,k<ll.length→aQ ll 0 k):Cw ll (s++[0]).reverse:=by have j:∀x,x∈s++[0]↔x<ll.length:=fun x=>(hm x).trans ⟨fun h=>tB l l.1 h,fun h=>C x h⟩;obtain⟨J,R,Y,Z⟩:=Lu (fun a b e=>⟨lq e,EU l e⟩) h o j;exact⟨J,R,Y,Z,fun x hx=>(j x).1 (List.mem_reverse.1 hx)⟩
theorem tT {n:Nat}(h:n≤1000000):(Lit.int .i64 (n:Int)).wf=true:=by simp only[Lit.wf,IntKind.min,IntKind.max,IntKind.signed,IntKind.bits,gE,iH,if_true];omega
theorem Aj (S:Nat→Prop)(v:Value)(ll:List (List Int))(w:World)(hv:Rows S w v ll)(hR:aP ll)(hL:∀k,k<ll.length→aQ ll 0 k):
 Calls prog 102 #[v] w fun e w'=>∃u ord,e=.returned u∧aa All w w'∧aK (fun b=>w.heap.size≤b) w' u (ord.map Int.ofNat)∧Cw ll ord:=by
 have l:=gt S v ll w hv;rw[bL hR] at l;have b6:=fun o (hk:aa All w o)=>jh (aq.keep hk.all hv);obtain⟨a,cap,rfl,h1,h2,c0,h⟩:=hv;have hl:ll.length≤256:=hR.2.1;have HR:=J4 l b6 hR hL;clear h h1 h2 c0 l b6 hR hL;go_enter func102,ntmps102;go_wp2_with fail;refine HR.1.mono ?_;rintro e o ⟨rfl,b4⟩;have HK:=oH b4
 have hw:=Et o.heap.size _ ll 0 (o.alloc (.cells #[.slice none 0 0] 45)) (aq.wide (T:=fun b=>b<(o.alloc (.cells #[.slice none 0 0] 45)).heap.size∧b≠o.heap.size) (fun b hb=>by simp;omega) (aq.keep ((aa.refl All o).alloc _).all (HR.2.1 _ b4))) HR.2.2.1 HR.2.2.1.1 (.inl (by simp))
  ⟨by simp;omega,by simp[qL],.slice none 0 0,(((((al.new _ _ _).alloc _).alloc _).alloc _).alloc _).alloc _,rfl,.inl ⟨rfl,rfl⟩⟩
 have HW:=oH hw;clear b4 hw;go_wp2_with fail;refine HW.out.mono ?_;rintro e w2 ⟨u,s,rfl,Z,_,⟨c1,c2,vs,b5,c3⟩,C,b7,a8⟩;have j:=JB HR.2.2.1 C b7 a8 HR.2.2.2;have a1:((s++[0]).map Int.ofNat).length=ll.length:=by rw[ce,←j.len,List.length_reverse]
 have b0:(s++[0]).length=ll.length:=by rw[←j.len,List.length_reverse]
 have h0:=b5.cell 0;obtain⟨_,b1⟩:=c3;rw[b0] at b1;rcases b1 with ⟨_,hn⟩|⟨g,J,cur,rfl,hg,hh,b8,c4,c5,b9⟩;·have:=HR.2.2.1.1;omega
 have R:∀m,m<ll.length→cur[m]? =some (.int .i64 (((s++[0]).map Int.ofNat).getD m 0)):=by(
 intro m hm;have e1:(cur.toList.take (ll.length*1))[m]? =(aI ((s++[0]).map Int.ofNat))[m]?:=by rw[b9]
 rw[rY (by omega)] at e1;simp only[Array.getElem?_toList] at e1;rw[e1];simp only[aI,cL,iG];rw[lG (by omega)];rfl)
 have b2:=xk g ll.length J _ cur w2 hh (by omega) HR.2.2.1.1 hl b8 (fun m hm=>⟨_,R m hm⟩);have HV:=oH b2;have HA:=J5 Z j R a1 b5;have c6:o.heap.size≠g:=by simp at hg;omega
 have c7:J≤9223372036854775807:=by unfold maxLen at c4;omega
 have d8:o.heap.size≤g:=by simp at hg;omega
 simp only[gc] at h0;clear b2 Z j R a1 b0 b9 c5 hh C b7 a8 c1 c2 b5 hg;go_wp2_with fail;refine HV.out.mono ?_;rintro e w3 ⟨rfl,Y,d9,a6,a7⟩;have h1:=(HA.2.2.2.2.kept Y c6).cell 0;simp only[gc] at h1;have HC:=J3 Y a6 a7;have HP:=oH (st (some ⟨g,0,none⟩) ll.length J w3 b8 c7);clear Y a6 a7 h0;go_wp2_with fail;refine HP.out.mono ?_;rintro e w4 ⟨rfl,rfl⟩;go_wp2_with fail;go_ret;obtain⟨Z,j,R,a1,_⟩:=HA.out;obtain⟨Y,a6,a7⟩:=HC.out;have c8:aa All o w3:=by
  have c9:aa (fun b=>b<o.heap.size) (o.alloc (.cells #[.slice none 0 0] 45)) w2:=Z.mono fun b hb=>by omega
  have d7:aa (fun b=>b<o.heap.size) w2 w3:=Y.mono fun b hb=>by omega
  exact am ((((aa.refl _ o).alloc _).trans c9).trans d7)
 refine⟨_,(s++[0]).reverse,rfl,HK.out.trans c8,?_,j⟩;have b3:((s++[0]).reverse.map Int.ofNat).length=ll.length:=by rw[ce,j.len]
 rw[←b3];refine Sl.of_blk a6 (by have:=HK.out.size;omega) (cf _) (by unfold maxLen;omega) (by omega) fun i x hx=>?_;have hi:i<ll.length:=by rw[←b3];exact(lS.1 hx).1
 refine⟨.int .i64 x,?_,rfl,?_⟩
 ·rw[a7 i hi,R _ (by omega),iG]
  rw[List.map_reverse,List.getElem?_reverse (by omega)] at hx;rw[←a1,hx];rfl
 rw[cL] at hx;obtain⟨y,hy,rfl⟩:=oE.1 hx;have:=j.lt y (mG hy);exact tT (by omega)
theorem uf {N:Nat}{p q:Nat→Bool}(h:∀k,k<N→p k=q k):az N p=az N q:=by unfold az;congr 1;refine List.map_congr_left fun k j=>?_;rw[h k (fg.1 j)]
theorem Ei (S:Nat→Prop)(v:Value)(ll:List (List Int))(w:World)(hv:Rows S w v ll)(hR:aP ll):
 Calls prog 69 #[v] w (uz (cV (iN ll) ll.length) w):=by
 have o:=gt S v ll w hv;rw[bL hR] at o;have J:=fun w1 (hk:aa All w w1)=>sd S v ll w1 (aq.keep hk.all hv) hR;have a8:=fun w1 (hk:aa All w w1)=>aq.keep hk.all hv;obtain⟨a,cap,rfl,h1,h2,c5,h⟩:=hv;have hl:ll.length≤256:=hR.2.1;have HR:=J4 o J a8 hR;clear h h1 h2 c5 o J a8 hR;have c6:=fun w=>iy ll.length (by omega) w;go_enter func69,ntmps69;go_wp2_with fail;refine HR.1.mono ?_;rintro e w1 ⟨rfl,b3⟩;have J:=HR.2.1 w1 b3;have HK:=J2 b3 J;clear b3 J;go_wp2_with fail;refine HK.2.mono ?_;rintro e w2 ⟨u,rfl,b8,hb⟩;have HB:=J2 (HK.1.trans b8) (jh hb);clear b8 hb;go_wp2_with fail;go_loopg [20] ll.length (fun g i wr=>∃i':Nat,i'≤ll.length∧g=ll.length-i'∧i=.int .i64 i'∧aa All w2 wr∧w2.heap.size<wr.heap.size∧al wr w2.heap.size 4 (az ll.length (lr ll i')));·exact⟨0,by omega,by omega,rfl,kR.alloc _,by simp,by rw[KV];exact al.new _ _ _⟩
 clear c6;obtain⟨i,hi,rfl,rfl,R,c7,l⟩:=hrel;by_cases b9:i<ll.length;·(
 obtain⟨row,b6⟩:=eG b9;obtain⟨b1,o1,c1,rfl,c8,e1,A3,c3,rfl,r1,r2,_,rh⟩:=bn (HR.2.2.1 wr (HB.1.trans R)) b6;have Y:=J3 R l b6;clear R b6 c8 rh l r1 r2;by_cases hz:0<row.length
 ·go_wp2_with fail
  go_roundg (ll.length-(i+1));·exact⟨i+1,by omega,rfl,by go_num,Y.1,c7,by rw[IG Y.2.2 hz];exact Y.2.1⟩
  omega
 obtain rfl:row=[]:=oD (by omega);have hw:=Es (wr.heap.size+5) u (gF ll) i wr (aq.wide (fun b hb=>⟨by have:=Y.1.size;omega,by have:=Y.1.size;omega⟩) (aq.keep Y.1.all HB.2)) (xN HR.2.2.2) (by rw[fK];exact b9) (.inr rfl) trivial;have HW:=oH hw;clear hw;go_wp2_with fail;refine HW.out.mono ?_;rintro e w3 ⟨uu,s,rfl,c0,c2,_⟩;have b0:aa (fun b=>b<wr.heap.size) wr w3:=c0.mono fun b hb=>by omega
 have b7:aa All wr w3:=am b0;have Z:(en (gF ll) i).length=ll.length:=by simp[en,fK]
 have a1:=fun wn (hk:aa (fun b=>b≠w2.heap.size) w3 wn)=>cR.keep (hk.mono fun b (hb:wr.heap.size≤b)=>by show b≠_;omega) c2;obtain⟨b4,c4,rfl,l1,l2,l3,_⟩:=c2;rw[Z] at l1 l3 a1⊢;have HX:=J4 b7 (Y.2.1.kept b7 trivial) a1 Z;clear c0 b0 b7 a1 Z;go_wp2_with fail;go_loopg [32] ll.length (fun g k wx=>∃k':Nat,k'≤ll.length∧g=ll.length-k'∧k=.int .i64 k'∧aa (fun b=>b≠w2.heap.size) w3 wx∧al wx w2.heap.size 4 (az ll.length (pz ll i k')));·exact⟨0,by omega,by omega,rfl,kR,by rw[KW];exact HX.2.1⟩
 obtain⟨k,hk,rfl,rfl,a6,l⟩:=hrel;by_cases b2:k<ll.length;·(
 obtain⟨b5,o5,v5,rfl,c9,d7,rfl⟩:=bn (HX.2.2.1 _ a6) (nU (by rw[fK];exact b2));have a7:=l.cell k;have d8:=l.free k;rw[bj b2,IJ] at a7;have C:∀b,(lr ll i k||ay (gF ll) i k)=b→(az ll.length (pz ll i k)).setIfInBounds k (.bool b)=az ll.length (pz ll i (k+1)):=fun b hb=>dg (by rw[CP];exact hb) (fun j _ hj=>IK hj);obtain⟨p,hp⟩:=eR (lr ll i k);obtain⟨q,hq⟩:=eR (ay (gF ll) i k);rw[hp] at C a7;rw[hq] at C d7;have HY:=J3 a6 l C;clear a6 l C hp hq c9;cases p with
 |true=>
  go_wp2_with fail;go_roundg (ll.length-(k+1));·exact⟨k+1,by omega,rfl,by go_num,HY.1.setCell (.inl fun h=>h rfl) _,by rw[←HY.2.2 true rfl];exact HY.2.1.set _ _⟩
  omega
 |false=>
  go_wp2_with fail;go_roundg (ll.length-(k+1));·exact⟨k+1,by omega,rfl,by go_num,HY.1.setCell (.inl fun h=>h rfl) _,by rw[←HY.2.2 q rfl];exact HY.2.1.set _ _⟩
  omega)
 obtain rfl:k=ll.length:=by omega
 have HY:=J2 a6 l;clear a6 l;go_wp2_with fail;go_roundg (ll.length-(i+1))
 ·have d9:aa All w2 _:=am ((Y.1.trans HX.1).all.trans (HY.1.mono fun b (hb:b<w2.heap.size)=>by show b≠_;omega))
  refine⟨i+1,by omega,rfl,by go_num,d9,by have:=HX.1.size;have:=HY.1.size;omega,?_⟩;rw[←uf fun k hk=>FA HR.2.2.2 Y.2.2 hk];exact HY.2
 omega)
 obtain rfl:i=ll.length:=by omega
 have HF:=oH (uZ _ _ _ wr (iT (S:=All) l trivial hl (fun k _=>rfl)));have Y:=oH R;clear R l;go_wp2_with fail;refine HF.out.mono ?_;rintro e w3 ⟨rfl,hw⟩;have e0:=hw.symm;subst e0;rw[De];go_wp2_with fail;go_ret2;exact⟨rfl,HB.1.trans Y.out⟩
theorem oS {n k:Nat}{t u:Nat→Int}{x:Int}(l:u k=x)(o:∀j,j<n→j≠k→u j=t j):(aN n t).setIfInBounds k (.int .i64 x)=aN n u:=by
 rw[fZ];refine ex fun j C=>?_;unfold lu;by_cases e:j=k;·subst e;rw[ap rfl,l]
 rw[ae e,o j C e]
structure qQ (n:Nat)(pl:Nat→Nat)(t:Nat→Int)(pb tb g h:Nat)(w:World):Prop where
 pp:al w pb 45 #[.slice (some ⟨g,0,none⟩) n n]
 tp:al w tb 45 #[.slice (some ⟨h,0,none⟩) n n]
 pn:al w g 3 (aN n fun k=>pl k)
 tn:al w h 3 (aN n t)
theorem qQ.keep {n j tb g h:Nat}{pl:Nat→Nat}{t:Nat→Int}{S:Nat→Prop}{w l:World}(k:aa S w l)(o:S j)(C:S tb)(J:S g)(R:S h)(T:qQ n pl t j tb g h w):qQ n pl t j tb g h l:=
 ⟨T.pp.kept k o,T.tp.kept k C,T.pn.kept k J,T.tn.kept k R⟩
theorem Gf (n:Nat)(pl:Nat→Nat)(t:Nat→Int)(pb tb g h a b:Nat)(w:World)(_:n≤256)(G:fU n pl t)(h0:pl 0=0)(inj:∀a b,a<n→b<n→pl a=pl b→a=b)(lt:∀a,a<n→pl a<n)
 (ha:a<n) (hb:b<n) (pa:my t a) (C:my t b) (T:qQ n pl t pb tb g h w):
 Calls prog 103 #[.int .i64 a,.int .i64 b,.pointer (some ⟨pb,0,none⟩),.pointer (some ⟨tb,0,none⟩)] w fun e w'=>∃m:Nat,e=.returned (.int .i64 m)∧m<n∧(∀x,ig t m x↔ig t a x∧ig t b x)∧aa All w w':=by
 have hT:=fun wn (hk:aa All w wn)=>T.keep hk trivial trivial trivial trivial;have HG:=J4 G h0 inj lt;have HA:=J3 pa C hT;clear G h0 inj lt pa C T hT;go_enter func103,ntmps103;go_wp2;go_loopg [0,1] (pl a+pl b) (fun gg x y wr=>∃j l:Nat,gg=pl j+pl l∧x=.int .i64 j∧y=.int .i64 l∧j<n∧l<n∧my t j∧my t l∧(∀x,(ig t j x∧ig t l x)↔(ig t a x∧ig t b x))∧aa All w wr);·exact⟨a,b,rfl,rfl,rfl,ha,hb,HA.1,HA.2.1,fun x=>Iff.rfl,kR⟩
 obtain⟨j,l,rfl,rfl,rfl,J,Y,pa,C,hx,R⟩:=hrel;have T:=HA.2.2 wr R;have c0:=T.pp.cell 0;have c1:=T.tp.cell 0;have c2:=T.pn.cell j;have c3:=T.pn.cell l;have c4:=T.tn.cell j;have c5:=T.tn.cell l;rw[bI J] at c2 c4;rw[bI Y] at c3 c5;simp only[gc] at c0 c1;have la:=HG.2.2.2 j J;have lb:=HG.2.2.2 l Y;clear T;by_cases he:j=l
 ·have Z:=J2 R hx;clear R hx;have te:((j:Int) !=l)=false:=by rw[gj];omega
  have HE:=oH he;clear he;go_wp2_with fail;go_ret;have he:=HE.out;subst he;exact⟨j,rfl,J,fun x=>⟨fun h=>(Z.2 x).1 ⟨h,h⟩,fun h=>((Z.2 x).2 h).1⟩,Z.1⟩
 have te:((j:Int) !=l)=true:=by rw[bne_iff_ne];omega
 have a8:pl j≠pl l:=fun e=>he (HG.2.2.1 j l J Y e);clear he;by_cases b0:pl l<pl j
 ·obtain⟨p,hp,a7,a1,b1,o⟩:=vz HG.1 J Y pa b0 HG.2.1;rw[hp] at c4;have Z:=J4 R (fun x=>(o x).symm.trans (hx x)) a1 C;clear R hx o a1 C pa hp;go_wp2_with fail;go_quiet (fail);go_wp2_with fail;go_roundg (pl p+pl l);·exact⟨p,l,rfl,rfl,rfl,a7,Y,Z.2.2.1,Z.2.2.2,Z.2.1,Z.1.drewN _⟩
  omega
 have a6:pl j<pl l:=by omega
 obtain⟨p,hp,a7,a1,b1,o⟩:=vz HG.1 Y J C a6 HG.2.1;rw[hp] at c5;have Z:=J4 R (fun x=>(and_comm.trans ((o x).symm.trans and_comm)).trans (hx x)) a1 pa;clear R hx o a1 C pa hp a8 a6;go_wp2_with fail;go_quiet (fail);go_wp2_with fail;go_roundg (pl j+pl p);·exact⟨j,p,rfl,rfl,rfl,J,a7,Z.2.2.2,Z.2.2.1,Z.2.1,Z.1.drewN _⟩
 omega
end Go.Proofs.YtncdbjponknakaaGreatDoor
