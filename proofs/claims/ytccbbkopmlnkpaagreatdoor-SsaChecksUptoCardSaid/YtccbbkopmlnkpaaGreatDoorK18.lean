/- Part 19 of the proof (its last part says what is proved). No condition. -/
import Derived.Test.YtccbbkopmlnkpaaGreatDoorK15
import Derived.Test.YtccbbkopmlnkpaaGreatDoorK17
namespace Go.Proofs.YtccbbkopmlnkpaaGreatDoor
set_option maxRecDepth 100000
set_option maxHeartbeats 8000000
open Go.RowKit Go.Proofs.Tryz
theorem Zr (B rd nf:Nat)(p:aH)(o a3 a4 a5:Option Addr)(C c3 c4 c5:Nat)(s:ByteArray)(S S2:Nat→Prop)(A:Option Addr)(c:Nat)(w:World)(I:al w rd 124 #[.slice o p.MZ.length C,.slice none 0 0,.slice a3 p.Nb.length c3,.slice a4 p.Na.length c4,.int .i64 p.Nc,.slice a5 nf c5])
 (hP:dJ S w (.agg #[.slice o p.MZ.length C,.slice none 0 0,.slice a3 p.Nb.length c3,.slice a4 p.Na.length c4,.int .i64 p.Nc]) p) (hr:w.ownsRow B 9 1 (.slice o p.MZ.length C) p.MZ.length (p.MZ.map Value.string)) (hB:B≤w.heap.size) (hv:gB S2 w (.slice A 1 c) [s]) (a8:∀b,S2 b→(Value.slice o p.MZ.length C).ownBlock≠some b) (b5:eZ p s<0) (hn:p.MZ.length<64):
 Calls prog 177 #[.pointer (some ⟨rd,0,none⟩),.slice A 1 c] w fun e w'=>e=.returned (.int .i64 0)∧aa (fun b=>b≠rd∧(Value.slice o p.MZ.length C).ownBlock≠some b) w w'∧∃R Y,al w' rd 124 #[.slice R (p.MZ.length+1) Y,.slice none 0 0,.slice a3 p.Nb.length c3,.slice a4 p.Na.length c4,.int .i64 p.Nc,.slice a5 nf c5]∧
  w'.ownsRow B 9 1 (.slice R (p.MZ.length+1) Y) (p.MZ.length+1) (p.MZ.map Value.string++[.string s])∧((Value.slice R (p.MZ.length+1) Y).ownBlock=(Value.slice o p.MZ.length C).ownBlock∨∀g,(Value.slice R (p.MZ.length+1) Y).ownBlock=some g→w.heap.size≤g):=by
 obtain⟨iS,IS⟩:=iH UP;obtain⟨b,q,rfl,b2,hc⟩:=Bs hv (i:=0) rfl;have b6:=oH (a8 b b2);clear a8 b2;rw[dj] at hc;obtain⟨n,b8⟩:=eQ p.MZ.length;have HV:=oH (fun wn (j:aa All w wn)=>show wn.cell? ⟨b,q,none⟩=some (.string s)∧wn.cell? ⟨rd,0,none⟩=some (.slice o p.MZ.length C)∧wn.cell? ⟨rd,1,none⟩=some (.slice none 0 0)∧wn.cell? ⟨rd,2,none⟩=some (.slice a3 p.Nb.length c3)∧wn.cell? ⟨rd,3,none⟩=some (.slice a4 p.Na.length c4)∧wn.cell? ⟨rd,4,none⟩=some (.int .i64 p.Nc) from⟨j.cell (p:=⟨b,q,none⟩) trivial hc,(I.kept j trivial).cell 0,(I.kept j trivial).cell 1,(I.kept j trivial).cell 2,(I.kept j trivial).cell 3,(I.kept j trivial).cell 4⟩);have HL:=oH (fun wn (j:aa All w wn)=>show Calls prog 84 #[(.agg #[.slice o p.MZ.length C,.slice none 0 0,.slice a3 p.Nb.length c3,.slice a4 p.Na.length c4,.int .i64 p.Nc]),.string s] wn (fun e w'=>e=.returned (.tuple #[.int .i64 0,.bool false])∧aa All wn w') from(qB S _ p s wn (cB.keep j.all hP)).mono fun e w' h=>⟨by rw[h.1];unfold lH;rw[show max (eZ p s) 0=0 by omega,show decide (0≤eZ p s)=false by simp;omega],h.2⟩);have H0:=J3 I hr hB;clear I hP hr hB hv b5 hc;go_enter func177,ntmps177;go_upto_region 1 with fail;refine R0 13 w (fun i=>if i=7 then some (·=(.tuple #[.int .i64 0,.bool false])) else none) ?_;iterate 7 refine O4 HV.out ?_
 refine O5 (v:=(.tuple #[.int .i64 0,.bool false])) (fun wn j hp=>⟨_,_,by(skip;go_simp<;>with_reducible rfl),((HL.out wn j).mono fun e w' h=>⟨h.1,j.trans h.2,fun _ h=>by cases h⟩)⟩) ?_;iterate 5 refine O4 HV.out ?_
 refine aG fun wt J hF=>?_;have HT:=oH J;clear J hF;simp only[dK];have b3:=H0.1.kept HT.out trivial;have x0:=b3.cl 0;clear b3;have b7:((p.MZ.length:Int)==64)=false:=by simp;omega
 go_upto_region 6 with fail;clear x0;have b0:∀b,(Value.slice o p.MZ.length C).ownBlock=some b→b<w.heap.size∧b≠rd:=fun b I=>⟨(aD H0.2.1 I).2,Ot H0.2.1 I H0.1 (by decide)⟩;have HO:=J3 b0 (fun h=>(b0 rd h).2 rfl:(Value.slice o p.MZ.length C).ownBlock≠some rd) HT.out.size;have HS:=oH (fun wn (j:aa (fun b=>(Value.slice o p.MZ.length C).ownBlock≠some b) wt wn)=>show al wn rd 124 #[.slice o p.MZ.length C,.slice none 0 0,.slice a3 p.Nb.length c3,.slice a4 p.Na.length c4,.int .i64 p.Nc,.slice a5 nf c5] from(H0.1.kept HT.out trivial).kept j HO.2.1);have HQ:=oH (fun wn (j:aa (fun b=>(Value.slice o p.MZ.length C).ownBlock≠some b) wt wn)=>show wn.cell? ⟨rd,0,none⟩=some (.slice o p.MZ.length C) from(HS.out wn j).cell 0);have HW:=oH (HV.out wt HT.out);have b4:(Value.slice o p.MZ.length C).ownBlock≠some b:=b6.out;have HU:=oH (fun wn (j:aa (fun b=>(Value.slice o p.MZ.length C).ownBlock≠some b) wt wn)=>show wn.cell? ⟨b,q,none⟩=some (.string s) from j.cell (p:=⟨b,q,none⟩) b4 HW.1);clear b4 b0;refine bq 14 (DL wt B 9 1 (.slice o p.MZ.length C) p.MZ.length (p.MZ.map Value.string)) [35,36] (NH wt B 9 1 (.slice o p.MZ.length C) p.MZ.length (p.MZ.map Value.string) [.string s] 35) (fun i=>if i=10 then some (NT p.MZ.length) else if i=9 then some Oa else none) (fun _=>false) (fun _ _=>False) (by kernel_rfl) (by kernel_rfl) (by kernel_rfl) (by kernel_rfl) (DL.first (be H0.2.1 HT.out fun _ _=>trivial)) (fun _ _ _ h=>h.elim) ?_;simp only[tK];iterate 9 first|refine O3 (fun wn j hp=>by(have e0:=HQ.out wn j.1;go_simp;with_reducible rfl)) ?_|refine O3 (fun wn j hp=>by(have e0:=HU.out wn j.1;go_simp;with_reducible rfl)) ?_|refine O0 ?_
 refine PE (by rfl) (by rfl) (by rfl) rfl (fun wn j hp=>by(skip;go_simp<;>with_reducible rfl)) ?_;intro g;simp only[PS];refine Ov (by rfl) (by rfl) (by rfl) rfl (by decide) (.tmp 31) 22 rfl iS _ 16 underlying22 IS.1 IS.2.1 IS.2.2.1 IS.2.2.2 rfl (by decide) rfl g rfl (by decide) rfl (by intro u hu;rw[cx.1 hu];rfl) (by unfold maxLen;omega) (by omega) (by have:=HO.2.2;have:=H0.2.2;omega) (fun b I=>by have:=(HO.1 b I).1;have:=HO.2.2;omega) ?_;intro R Y;simp only[PS];iterate 3 refine O0 ?_
 refine aG fun w3 J hF=>?_;have a6:=hF 36 (by simp) _ rfl;unfold NH at a6;rw[ae (by decide)] at a6;have H3:=J2 J.1 a6;clear J hF a6;simp only[dK];have a7:=HS.out w3 H3.1;have z0:=a7.cell 0;have f0:=a7.free 0;have b1:=a7.set 0 (.slice R (p.MZ.length+1) Y);simp only[gc,ga] at z0 b1;have H4:=oH b1;clear a7 b1;go_wp2_with fail;go_ret;have kF:aa (fun b=>b≠rd∧(Value.slice o p.MZ.length C).ownBlock≠some b) w (w3.setCell ⟨rd,0,none⟩ (.slice R (p.MZ.length+1) Y)):=((HT.out.all.trans (H3.1.mono fun b I=>I.2)).setCell (.inl fun h=>h.1 rfl) _);have k4:aa (fun b=>b≠rd) w3 (w3.setCell ⟨rd,0,none⟩ (.slice R (p.MZ.length+1) Y)):=kR.setCell (.inl fun h=>h rfl) _;refine⟨rfl,kF,R,Y,H4.out,be H3.2.1 k4 fun g hg=>Ot H3.2.1 hg (HS.out w3 H3.1) (by decide),?_⟩;rcases H3.2.2 with h|h;·exact .inl h
 exact .inr fun g hg=>by have:=h g hg;have:=HO.2.2;omega
theorem Yr:(prog.info? 228).map (fun i=>(i.zero,i.size,i.bytes))=some (some (.agg #[.string ⟨#[]⟩,.int .i64 0]),2,24):=by kernel_rfl
theorem ZH (B rd n1 nf:Nat)(d:Int)(p:aH)(a1 a4 a5:Option Addr)(c1 n4 c4 c5:Nat)(s s2:ByteArray)(L:Nat)(S S2:Nat→Prop)(A:Option Addr)(c:Nat)(w:World)(C:al w rd 124 #[.slice a1 n1 c1,.slice none 0 0,.slice none 0 0,.slice a4 n4 c4,.int .i64 d,.slice a5 nf c5])
 (hP:dJ S w (.agg #[.slice a1 n1 c1,.slice none 0 0,.slice none 0 0,.slice a4 n4 c4,.int .i64 d]) p) (hB:B≤w.heap.size) (hv:gB S2 w (.slice A 2 c) [s,s2]) (hL:eZ p s2=L) (_:s.size≤65536):
 Calls prog 225 #[.pointer (some ⟨rd,0,none⟩),.pointer (some ⟨rd,2,none⟩),.slice A 2 c] w fun e I=>e=.returned (.int .i64 0)∧aa (fun b=>b≠rd) w I∧∃J R,al I rd 124 #[.slice a1 n1 c1,.slice none 0 0,.slice J 1 R,.slice a4 n4 c4,.int .i64 d,.slice a5 nf c5]∧
  I.ownsRow B 228 2 (.slice J 1 R) 1 [.string s,.int .i64 L]∧∀g,(Value.slice J 1 R).ownBlock=some g→w.heap.size≤g:=by
 obtain⟨iS,IS⟩:=iH Yr;obtain⟨b,q,rfl,b5,hc⟩:=Bs hv (i:=0) rfl;obtain⟨b2,q2,e2,_,b0⟩:=Bs hv (i:=1) rfl;cases e2;rw[dj] at hc;clear b5;have HV:=oH (fun wn (j:aa All w wn)=>show wn.cell? ⟨b,q,none⟩=some (.string s)∧wn.cell? ⟨b,q+1,none⟩=some (.string s2)∧wn.cell? ⟨rd,0,none⟩=some (.slice a1 n1 c1)∧wn.cell? ⟨rd,1,none⟩=some (.slice none 0 0)∧wn.cell? ⟨rd,2,none⟩=some (.slice none 0 0)∧wn.cell? ⟨rd,3,none⟩=some (.slice a4 n4 c4)∧wn.cell? ⟨rd,4,none⟩=some (.int .i64 d) from⟨j.cell (p:=⟨b,q,none⟩) trivial hc,j.cell (p:=⟨b,q+1,none⟩) trivial b0,(C.kept j trivial).cell 0,(C.kept j trivial).cell 1,(C.kept j trivial).cell 2,(C.kept j trivial).cell 3,(C.kept j trivial).cell 4⟩);have HL:=oH (fun wn (j:aa All w wn)=>show Calls prog 84 #[(.agg #[.slice a1 n1 c1,.slice none 0 0,.slice none 0 0,.slice a4 n4 c4,.int .i64 d]),.string s2] wn (fun e I=>e=.returned (.tuple #[.int .i64 L,.bool true])∧aa All wn I) from(qB S _ p s2 wn (cB.keep j.all hP)).mono fun e I h=>⟨by rw[h.1];unfold lH;rw[hL,show max (L:Int) 0=L by omega,show decide ((0:Int)≤(L:Int))=true by simp],h.2⟩);have HC:=oH (fun wn=>show Calls prog 155 #[.slice none 0 0,.func (.func 156) #[] #[],.string s] wn (fun e I=>e=.returned (.tuple #[.int .i64 0,.bool false])∧aa All wn I) from qt (fun _=>False) _ [] s wn rx.nil);have H0:=J2 C hB;clear C hP hB hv hL hc b0;go_enter func225,ntmps225;go_upto_region 1 with fail;refine R0 12 w (fun i=>if i=6 then some (·=(.tuple #[.int .i64 0,.bool false])) else none) ?_;iterate 6 refine O4 HV.out ?_
 refine O5 (v:=(.tuple #[.int .i64 0,.bool false])) (fun wn j hp=>⟨_,_,by(skip;go_simp<;>with_reducible rfl),(((fun wn (_:aa All w wn)=>HC.out wn) wn j).mono fun e I h=>⟨h.1,j.trans h.2,fun _ h=>by cases h⟩)⟩) ?_;iterate 5 refine O4 HV.out ?_
 refine aG fun wt o hF=>?_;have HT:=oH o;clear o hF;simp only[dK];have a7:=oH HT.out;clear HT;go_upto_region 4 with fail;have b1:=oH (fun wn (j:aa All wt wn)=>HV.out wn (a7.out.trans j));have b6:=oH (fun wn (j:aa All wt wn)=>HL.out wn (a7.out.trans j));obtain⟨wq,b7⟩:=eQ wt;subst b7;refine R0 13 wq (fun i=>if i=7 then some (·=(.tuple #[.int .i64 L,.bool true])) else none) ?_;iterate 7 refine O4 b1.out ?_
 refine O5 (v:=(.tuple #[.int .i64 L,.bool true])) (fun wn j hp=>⟨_,_,by(skip;go_simp<;>with_reducible rfl),((b6.out wn j).mono fun e I h=>⟨h.1,j.trans h.2,fun _ h=>by cases h⟩)⟩) ?_;iterate 5 refine O4 b1.out ?_
 refine aG fun wt o hF=>?_;have HT:=oH o;clear o hF;simp only[dK];have HK:=oH (a7.out.trans HT.out);have b3:=H0.1.kept HK.out trivial;have x0:=b3.cl 2;clear b3;go_upto_region 9 with fail;clear x0;have HS:=oH (fun wn (j:aa (fun b=>(Value.slice none 0 0).ownBlock≠some b) wt wn)=>show al wn rd 124 #[.slice a1 n1 c1,.slice none 0 0,.slice none 0 0,.slice a4 n4 c4,.int .i64 d,.slice a5 nf c5] from(H0.1.kept HK.out trivial).kept j (fun h=>by cases h));have HQ:=oH (fun wn (j:aa (fun b=>(Value.slice none 0 0).ownBlock≠some b) wt wn)=>show wn.cell? ⟨rd,2,none⟩=some (.slice none 0 0) from(HS.out wn j).cell 2);have HU:=oH (fun wn (j:aa (fun b=>(Value.slice none 0 0).ownBlock≠some b) wt wn)=>show wn.cell? ⟨b,q,none⟩=some (.string s) from j.cell (p:=⟨b,q,none⟩) (fun h=>by cases h) (HV.out wt HK.out).1);have b4:wt.ownsRow B 228 2 (.slice none 0 0) 0 []:=⟨rfl,.inl ⟨rfl,rfl⟩⟩;have b8:=oH b4;clear b4;refine bq 12 (DL wt B 228 2 (.slice none 0 0) 0 []) [49,50] (NH wt B 228 2 (.slice none 0 0) 0 [] [.string s,.int .i64 L] 49) (fun i=>if i=10 then some (NT 0) else if i=9 then some Oa else none) (fun _=>false) (fun _ _=>False) (by kernel_rfl) (by kernel_rfl) (by kernel_rfl) (by kernel_rfl) (DL.first b8.out) (fun _ _ _ h=>h.elim) ?_;simp only[tK];iterate 9 first|refine O3 (fun wn j hp=>by(have e0:=HQ.out wn j.1;go_simp;with_reducible rfl)) ?_|refine O3 (fun wn j hp=>by(have e0:=HU.out wn j.1;go_simp;with_reducible rfl)) ?_|refine O0 ?_
 refine PE (by rfl) (by rfl) (by rfl) rfl (fun wn j hp=>by(skip;go_simp<;>with_reducible rfl)) ?_;intro g;simp only[PS];refine Ov (by rfl) (by rfl) (by rfl) rfl (by decide) (.tmp 43) 24 rfl iS _ 24 underlying24 IS.1 IS.2.1 IS.2.2.1 IS.2.2.2 rfl (by decide) rfl g rfl (by decide) rfl (by intro u hu;simp only[fX,List.not_mem_nil,or_false] at hu;rcases hu with rfl|rfl<;>rfl) (by unfold maxLen;omega) (by omega) (by have:=HK.out.size;have:=H0.2;omega) (fun b C=>by cases C) ?_;intro J R;simp only[PS];refine O0 ?_;refine aG fun w3 o hF=>?_;have Y:=hF 50 (by simp) _ rfl;unfold NH at Y;rw[ae (by decide)] at Y;have H3:=J2 o.1 Y;clear o hF Y;simp only[dK];have a6:=HS.out w3 H3.1;have z0:=a6.cell 2;have f0:=a6.free 2;have a8:=a6.set 2 (.slice J 1 R);simp only[gc,ga] at z0 a8;have H4:=oH a8;clear a6 a8;go_wp2_with fail;go_ret;have kF:aa (fun b=>b≠rd) w (w3.setCell ⟨rd,2,none⟩ (.slice J 1 R)):=((HK.out.all.trans (H3.1.mono fun b C h=>by cases h)).setCell (.inl fun h=>h rfl) _);have k4:aa (fun b=>b≠rd) w3 (w3.setCell ⟨rd,2,none⟩ (.slice J 1 R)):=kR.setCell (.inl fun h=>h rfl) _;refine⟨rfl,kF,J,R,H4.out,be H3.2.1 k4 fun g hg=>Ot H3.2.1 hg (HS.out w3 H3.1) (by decide),?_⟩;rcases H3.2.2 with h|h;·exact fun g hg=>by have h2:(Value.slice J 1 R).ownBlock=none:=h;rw[h2] at hg;cases hg
 exact fun g hg=>by have:=h g hg;have:=HK.out.size;omega
theorem Zy (B rd n1 nf:Nat)(d:Int)(p:aH)(a1 a3 a5:Option Addr)(c1 n3 c3 c5:Nat)(s s2:ByteArray)(L:Nat)(S S2:Nat→Prop)(A:Option Addr)(c:Nat)(w:World)(C:al w rd 124 #[.slice a1 n1 c1,.slice none 0 0,.slice a3 n3 c3,.slice none 0 0,.int .i64 d,.slice a5 nf c5])
 (hP:dJ S w (.agg #[.slice a1 n1 c1,.slice none 0 0,.slice a3 n3 c3,.slice none 0 0,.int .i64 d]) p) (hB:B≤w.heap.size) (hv:gB S2 w (.slice A 2 c) [s,s2]) (hL:eZ p s2=L) (_:s.size≤65536):
 Calls prog 225 #[.pointer (some ⟨rd,0,none⟩),.pointer (some ⟨rd,3,none⟩),.slice A 2 c] w fun e I=>e=.returned (.int .i64 0)∧aa (fun b=>b≠rd) w I∧∃J R,al I rd 124 #[.slice a1 n1 c1,.slice none 0 0,.slice a3 n3 c3,.slice J 1 R,.int .i64 d,.slice a5 nf c5]∧
  I.ownsRow B 228 2 (.slice J 1 R) 1 [.string s,.int .i64 L]∧∀g,(Value.slice J 1 R).ownBlock=some g→w.heap.size≤g:=by
 obtain⟨iS,IS⟩:=iH Yr;obtain⟨b,q,rfl,b5,hc⟩:=Bs hv (i:=0) rfl;obtain⟨b2,q2,e2,_,b0⟩:=Bs hv (i:=1) rfl;cases e2;rw[dj] at hc;clear b5;have HV:=oH (fun wn (j:aa All w wn)=>show wn.cell? ⟨b,q,none⟩=some (.string s)∧wn.cell? ⟨b,q+1,none⟩=some (.string s2)∧wn.cell? ⟨rd,0,none⟩=some (.slice a1 n1 c1)∧wn.cell? ⟨rd,1,none⟩=some (.slice none 0 0)∧wn.cell? ⟨rd,2,none⟩=some (.slice a3 n3 c3)∧wn.cell? ⟨rd,3,none⟩=some (.slice none 0 0)∧wn.cell? ⟨rd,4,none⟩=some (.int .i64 d) from⟨j.cell (p:=⟨b,q,none⟩) trivial hc,j.cell (p:=⟨b,q+1,none⟩) trivial b0,(C.kept j trivial).cell 0,(C.kept j trivial).cell 1,(C.kept j trivial).cell 2,(C.kept j trivial).cell 3,(C.kept j trivial).cell 4⟩);have HL:=oH (fun wn (j:aa All w wn)=>show Calls prog 84 #[(.agg #[.slice a1 n1 c1,.slice none 0 0,.slice a3 n3 c3,.slice none 0 0,.int .i64 d]),.string s2] wn (fun e I=>e=.returned (.tuple #[.int .i64 L,.bool true])∧aa All wn I) from(qB S _ p s2 wn (cB.keep j.all hP)).mono fun e I h=>⟨by rw[h.1];unfold lH;rw[hL,show max (L:Int) 0=L by omega,show decide ((0:Int)≤(L:Int))=true by simp],h.2⟩);have HC:=oH (fun wn=>show Calls prog 155 #[.slice none 0 0,.func (.func 156) #[] #[],.string s] wn (fun e I=>e=.returned (.tuple #[.int .i64 0,.bool false])∧aa All wn I) from qt (fun _=>False) _ [] s wn rx.nil);have H0:=J2 C hB;clear C hP hB hv hL hc b0;go_enter func225,ntmps225;go_upto_region 1 with fail;refine R0 12 w (fun i=>if i=6 then some (·=(.tuple #[.int .i64 0,.bool false])) else none) ?_;iterate 6 refine O4 HV.out ?_
 refine O5 (v:=(.tuple #[.int .i64 0,.bool false])) (fun wn j hp=>⟨_,_,by(skip;go_simp<;>with_reducible rfl),(((fun wn (_:aa All w wn)=>HC.out wn) wn j).mono fun e I h=>⟨h.1,j.trans h.2,fun _ h=>by cases h⟩)⟩) ?_;iterate 5 refine O4 HV.out ?_
 refine aG fun wt o hF=>?_;have HT:=oH o;clear o hF;simp only[dK];have a7:=oH HT.out;clear HT;go_upto_region 4 with fail;have b1:=oH (fun wn (j:aa All wt wn)=>HV.out wn (a7.out.trans j));have b6:=oH (fun wn (j:aa All wt wn)=>HL.out wn (a7.out.trans j));obtain⟨wq,b7⟩:=eQ wt;subst b7;refine R0 13 wq (fun i=>if i=7 then some (·=(.tuple #[.int .i64 L,.bool true])) else none) ?_;iterate 7 refine O4 b1.out ?_
 refine O5 (v:=(.tuple #[.int .i64 L,.bool true])) (fun wn j hp=>⟨_,_,by(skip;go_simp<;>with_reducible rfl),((b6.out wn j).mono fun e I h=>⟨h.1,j.trans h.2,fun _ h=>by cases h⟩)⟩) ?_;iterate 5 refine O4 b1.out ?_
 refine aG fun wt o hF=>?_;have HT:=oH o;clear o hF;simp only[dK];have HK:=oH (a7.out.trans HT.out);have b3:=H0.1.kept HK.out trivial;have x0:=b3.cl 3;clear b3;go_upto_region 9 with fail;clear x0;have HS:=oH (fun wn (j:aa (fun b=>(Value.slice none 0 0).ownBlock≠some b) wt wn)=>show al wn rd 124 #[.slice a1 n1 c1,.slice none 0 0,.slice a3 n3 c3,.slice none 0 0,.int .i64 d,.slice a5 nf c5] from(H0.1.kept HK.out trivial).kept j (fun h=>by cases h));have HQ:=oH (fun wn (j:aa (fun b=>(Value.slice none 0 0).ownBlock≠some b) wt wn)=>show wn.cell? ⟨rd,3,none⟩=some (.slice none 0 0) from(HS.out wn j).cell 3);have HU:=oH (fun wn (j:aa (fun b=>(Value.slice none 0 0).ownBlock≠some b) wt wn)=>show wn.cell? ⟨b,q,none⟩=some (.string s) from j.cell (p:=⟨b,q,none⟩) (fun h=>by cases h) (HV.out wt HK.out).1);have b4:wt.ownsRow B 228 2 (.slice none 0 0) 0 []:=⟨rfl,.inl ⟨rfl,rfl⟩⟩;have b8:=oH b4;clear b4;refine bq 12 (DL wt B 228 2 (.slice none 0 0) 0 []) [49,50] (NH wt B 228 2 (.slice none 0 0) 0 [] [.string s,.int .i64 L] 49) (fun i=>if i=10 then some (NT 0) else if i=9 then some Oa else none) (fun _=>false) (fun _ _=>False) (by kernel_rfl) (by kernel_rfl) (by kernel_rfl) (by kernel_rfl) (DL.first b8.out) (fun _ _ _ h=>h.elim) ?_;simp only[tK];iterate 9 first|refine O3 (fun wn j hp=>by(have e0:=HQ.out wn j.1;go_simp;with_reducible rfl)) ?_|refine O3 (fun wn j hp=>by(have e0:=HU.out wn j.1;go_simp;with_reducible rfl)) ?_|refine O0 ?_
 refine PE (by rfl) (by rfl) (by rfl) rfl (fun wn j hp=>by(skip;go_simp<;>with_reducible rfl)) ?_;intro g;simp only[PS];refine Ov (by rfl) (by rfl) (by rfl) rfl (by decide) (.tmp 43) 24 rfl iS _ 24 underlying24 IS.1 IS.2.1 IS.2.2.1 IS.2.2.2 rfl (by decide) rfl g rfl (by decide) rfl (by intro u hu;simp only[fX,List.not_mem_nil,or_false] at hu;rcases hu with rfl|rfl<;>rfl) (by unfold maxLen;omega) (by omega) (by have:=HK.out.size;have:=H0.2;omega) (fun b C=>by cases C) ?_;intro J R;simp only[PS];refine O0 ?_;refine aG fun w3 o hF=>?_;have Y:=hF 50 (by simp) _ rfl;unfold NH at Y;rw[ae (by decide)] at Y;have H3:=J2 o.1 Y;clear o hF Y;simp only[dK];have a6:=HS.out w3 H3.1;have z0:=a6.cell 3;have f0:=a6.free 3;have a8:=a6.set 3 (.slice J 1 R);simp only[gc,ga] at z0 a8;have H4:=oH a8;clear a6 a8;go_wp2_with fail;go_ret;have kF:aa (fun b=>b≠rd) w (w3.setCell ⟨rd,3,none⟩ (.slice J 1 R)):=((HK.out.all.trans (H3.1.mono fun b C h=>by cases h)).setCell (.inl fun h=>h rfl) _);have k4:aa (fun b=>b≠rd) w3 (w3.setCell ⟨rd,3,none⟩ (.slice J 1 R)):=kR.setCell (.inl fun h=>h rfl) _;refine⟨rfl,kF,J,R,H4.out,be H3.2.1 k4 fun g hg=>Ot H3.2.1 hg (HS.out w3 H3.1) (by decide),?_⟩;rcases H3.2.2 with h|h;·exact fun g hg=>by have h2:(Value.slice J 1 R).ownBlock=none:=h;rw[h2] at hg;cases hg
 exact fun g hg=>by have:=h g hg;have:=HK.out.size;omega
theorem Zq (B rd o nf:Nat)(d:Int)(p:aH)(C a4 a5:Option Addr)(I J R c5:Nat)(s s2:ByteArray)(L:Nat)(S S2:Nat→Prop)(A:Option Addr)(c:Nat)(w:World)(hb:al w rd 124 #[.slice C o I,.slice none 0 0,.slice none 0 0,.slice a4 J R,.int .i64 d,.slice a5 nf c5])
 (hP:dJ S w (.agg #[.slice C o I,.slice none 0 0,.slice none 0 0,.slice a4 J R,.int .i64 d]) p) (hB:B≤w.heap.size) (hv:gB S2 w (.slice A 2 c) [s,s2]) (hL:eZ p s2=L) (j:s.size≤65536):
 Calls prog 179 #[.pointer (some ⟨rd,0,none⟩),.slice A 2 c] w fun e Y=>e=.returned (.int .i64 0)∧aa (fun b=>b≠rd) w Y∧∃A5 C5,al Y rd 124 #[.slice C o I,.slice none 0 0,.slice A5 1 C5,.slice a4 J R,.int .i64 d,.slice a5 nf c5]∧
  Y.ownsRow B 228 2 (.slice A5 1 C5) 1 [.string s,.int .i64 L]∧∀g,(Value.slice A5 1 C5).ownBlock=some g→w.heap.size≤g:=by
 have HC:=oH (ZH B rd o nf d p C a4 a5 I J R c5 s s2 L S S2 A c w hb hP hB hv hL j);clear hb hP hB hv hL j;go_enter func179,ntmps179;go_wp2_with fail;refine HC.out.mono ?_;rintro e Y ⟨rfl,h⟩;have H:=oH h;clear h;go_wp2_with fail;go_ret;exact⟨rfl,H.out⟩
theorem Zk (B rd o nf:Nat)(d:Int)(p:aH)(C a3 a5:Option Addr)(I J R c5:Nat)(s s2:ByteArray)(L:Nat)(S S2:Nat→Prop)(A:Option Addr)(c:Nat)(w:World)(hb:al w rd 124 #[.slice C o I,.slice none 0 0,.slice a3 J R,.slice none 0 0,.int .i64 d,.slice a5 nf c5])
 (hP:dJ S w (.agg #[.slice C o I,.slice none 0 0,.slice a3 J R,.slice none 0 0,.int .i64 d]) p) (hB:B≤w.heap.size) (hv:gB S2 w (.slice A 2 c) [s,s2]) (hL:eZ p s2=L) (j:s.size≤65536):
 Calls prog 180 #[.pointer (some ⟨rd,0,none⟩),.slice A 2 c] w fun e Y=>e=.returned (.int .i64 0)∧aa (fun b=>b≠rd) w Y∧∃A5 C5,al Y rd 124 #[.slice C o I,.slice none 0 0,.slice a3 J R,.slice A5 1 C5,.int .i64 d,.slice a5 nf c5]∧
  Y.ownsRow B 228 2 (.slice A5 1 C5) 1 [.string s,.int .i64 L]∧∀g,(Value.slice A5 1 C5).ownBlock=some g→w.heap.size≤g:=by
 have HC:=oH (Zy B rd o nf d p C a3 a5 I J R c5 s s2 L S S2 A c w hb hP hB hv hL j);clear hb hP hB hv hL j;go_enter func180,ntmps180;go_wp2_with fail;refine HC.out.mono ?_;rintro e Y ⟨rfl,h⟩;have H:=oH h;clear h;go_wp2_with fail;go_ret;exact⟨rfl,H.out⟩
def YG:cO (Nat×Nat):=fun _ _ cs x=>cs=[.int .i64 x.1,.int .i64 x.2]
theorem Yb:cO.Good YG:=⟨fun _ h=>h,fun _ h=>h⟩
theorem Yk:(prog.info? 74).map (fun i=>(i.zero,i.size,i.bytes))=some (some (.agg #[.int .i64 0,.int .i64 0]),2,16):=by kernel_rfl
theorem Zz (B rd n1 n3 n4:Nat)(d:Int)(p:aH)(a1 a3 a4:Option Addr)(c1 c3 c4:Nat)(s s2:ByteArray)(R Y:Nat)(S S2:Nat→Prop)(A:Option Addr)(c:Nat)(w:World)(hb:al w rd 124 #[.slice a1 n1 c1,.slice none 0 0,.slice a3 n3 c3,.slice a4 n4 c4,.int .i64 d,.slice none 0 0])
 (hP:dJ S w (.agg #[.slice a1 n1 c1,.slice none 0 0,.slice a3 n3 c3,.slice a4 n4 c4,.int .i64 d]) p) (hB:B≤w.heap.size) (hv:gB S2 w (.slice A 2 c) [s,s2]) (hL:eZ p s=R) (b0:eZ p s2=Y):
 Calls prog 178 #[.pointer (some ⟨rd,0,none⟩),.slice A 2 c] w fun e o=>e=.returned (.int .i64 0)∧aa (fun b=>b≠rd) w o∧∃A5 C5,al o rd 124 #[.slice a1 n1 c1,.slice none 0 0,.slice a3 n3 c3,.slice a4 n4 c4,.int .i64 d,.slice A5 1 C5]∧
  dR 2 74 YG w.heap.size o (.slice A5 1 C5) [(R,Y)]:=by
 obtain⟨iS,IS⟩:=iH Yk;obtain⟨b,q,rfl,b5,hc⟩:=Bs hv (i:=0) rfl;obtain⟨b2,q2,e2,_,b1⟩:=Bs hv (i:=1) rfl;cases e2;rw[dj] at hc;clear b5;have HV:=oH (fun wn (j:aa All w wn)=>show wn.cell? ⟨b,q,none⟩=some (.string s)∧wn.cell? ⟨b,q+1,none⟩=some (.string s2)∧wn.cell? ⟨rd,0,none⟩=some (.slice a1 n1 c1)∧wn.cell? ⟨rd,1,none⟩=some (.slice none 0 0)∧wn.cell? ⟨rd,2,none⟩=some (.slice a3 n3 c3)∧wn.cell? ⟨rd,3,none⟩=some (.slice a4 n4 c4)∧wn.cell? ⟨rd,4,none⟩=some (.int .i64 d) from⟨j.cell (p:=⟨b,q,none⟩) trivial hc,j.cell (p:=⟨b,q+1,none⟩) trivial b1,(hb.kept j trivial).cell 0,(hb.kept j trivial).cell 1,(hb.kept j trivial).cell 2,(hb.kept j trivial).cell 3,(hb.kept j trivial).cell 4⟩);have HL:=oH (fun wn (j:aa All w wn)=>show Calls prog 84 #[(.agg #[.slice a1 n1 c1,.slice none 0 0,.slice a3 n3 c3,.slice a4 n4 c4,.int .i64 d]),.string s] wn (fun e o=>e=.returned (.tuple #[.int .i64 R,.bool true])∧aa All wn o) from(qB S _ p s wn (cB.keep j.all hP)).mono fun e o h=>⟨by rw[h.1];unfold lH;rw[hL,show max (R:Int) 0=R by omega,show decide ((0:Int)≤(R:Int))=true by simp],h.2⟩);have b6:=oH (fun wn (j:aa All w wn)=>show Calls prog 84 #[(.agg #[.slice a1 n1 c1,.slice none 0 0,.slice a3 n3 c3,.slice a4 n4 c4,.int .i64 d]),.string s2] wn (fun e o=>e=.returned (.tuple #[.int .i64 Y,.bool true])∧aa All wn o) from(qB S _ p s2 wn (cB.keep j.all hP)).mono fun e o h=>⟨by rw[h.1];unfold lH;rw[b0,show max (Y:Int) 0=Y by omega,show decide ((0:Int)≤(Y:Int))=true by simp],h.2⟩);have H0:=J2 hb hB;clear hb hP hB hv hL b0 hc b1;go_enter func178,ntmps178;go_upto_region 1 with fail;refine R0 13 w (fun i=>if i=7 then some (·=(.tuple #[.int .i64 R,.bool true])) else none) ?_;iterate 7 refine O4 HV.out ?_
 refine O5 (v:=(.tuple #[.int .i64 R,.bool true])) (fun wn j hp=>⟨_,_,by(skip;go_simp<;>with_reducible rfl),((HL.out wn j).mono fun e o h=>⟨h.1,j.trans h.2,fun _ h=>by cases h⟩)⟩) ?_;iterate 5 refine O4 HV.out ?_
 refine aG fun wt C hF=>?_;have HT:=oH C;clear C hF;simp only[dK];have a6:=oH HT.out;clear HT;go_upto_region 2 with fail;have b3:=oH (fun wn (j:aa All wt wn)=>HV.out wn (a6.out.trans j));have b7:=oH (fun wn (j:aa All wt wn)=>b6.out wn (a6.out.trans j));obtain⟨wq,b8⟩:=eQ wt;subst b8;refine R0 13 wq (fun i=>if i=7 then some (·=(.tuple #[.int .i64 Y,.bool true])) else none) ?_;iterate 7 refine O4 b3.out ?_
 refine O5 (v:=(.tuple #[.int .i64 Y,.bool true])) (fun wn j hp=>⟨_,_,by(skip;go_simp<;>with_reducible rfl),((b7.out wn j).mono fun e o h=>⟨h.1,j.trans h.2,fun _ h=>by cases h⟩)⟩) ?_;iterate 5 refine O4 b3.out ?_
 refine aG fun wt C hF=>?_;have HT:=oH C;clear C hF;simp only[dK];have HK:=oH (a6.out.trans HT.out);have a7:=H0.1.kept HK.out trivial;have x5:=a7.cl 5;have HW:=oH a7;clear a7;have b9:=HK.out.size;go_upto_region 5 with fail;go_wp2_with (
  at_builtin;go_loud (
  refine bN (E:=YG) _ Yb rfl (.tmp 41) (.tmp 45) 60 rfl iS _ 16 underlying60 IS.1 IS.2.1 IS.2.2.1 IS.2.2.2 rfl (by decide) _ _ rfl (dR.nil (B:=w.heap.size)) wt.heap.size 0 1 rfl [.int .i64 R,.int .i64 Y] (R,Y) rfl ?_ ?_ (by simp) (by decide) ?_ (fun _=>False) (fun _ h=>h.elim) rfl ?_;·intro m u hu;rw[cN,(al.new _ _ _:al (wt.alloc _) wt.heap.size _ _).cell,List.getElem?_toArray];exact hu
  ·intro u hu;simp only[fX,List.not_mem_nil,or_false] at hu;rcases hu with rfl|rfl<;>rfl
  ·simp;omega
  intro A5 C5 w5 I b4 _;have kz:aa All wt w5:=((aa.refl All wt).alloc _).trans (kR.grown b4 fun b hb=>by cases hb);have J:=HW.out.kept kz trivial;have z5:=J.cell 5;have f5:=J.free 5;have a8:=J.set 5 (.slice A5 1 C5);simp only[gc,ga] at z5 a8;have HZ:=J4 (HK.out.trans kz) a8 I J;clear kz J a8 I b4))
 go_ret;have kF:aa (fun b=>b≠rd) w (w5.setCell ⟨rd,5,none⟩ (.slice A5 1 C5)):=(HZ.1.all).setCell (.inl fun h=>h rfl) _;have k4:aa (fun b=>b≠rd) w5 (w5.setCell ⟨rd,5,none⟩ (.slice A5 1 C5)):=kR.setCell (.inl fun h=>h rfl) _;have c0:=H0.1.lt;exact⟨rfl,kF,A5,C5,HZ.2.1,HZ.2.2.1.keep Yb k4 fun b h1 _=>by show b≠rd;omega⟩
section
attribute [local go_sem] pm lU jt mU List.getElem?_toArray List.getElem?_cons_zero
theorem YP:ue [3#64,2#64]:=by unfold ue dI;decide
theorem YL (w:World)(x y z:BitVec 64)(h:x|||y=z):(binOp .or 52 (U x) (U y)).run prog w=.ok (U z) w:=by subst h;exact xr ..
theorem YO {w:World}{b:Nat}{x y:BitVec 64}(h:al w b 52 #[U x,U y]):nZ (fun i=>i=b) w (.slice (some ⟨b,0,none⟩) 2 2) [x,y]:=by
 obtain⟨o,C⟩:=h.c2;refine⟨_,2,rfl,cf _,by unfold maxLen;decide,by show 2*8≤_;decide,fun i z j=>?_⟩
 match i,j with
 |0,j=>cases j;exact⟨b,0,U x,rfl,rfl,o,rfl⟩
 |1,j=>cases j;exact⟨b,0,U y,rfl,rfl,C,rfl⟩
theorem YM {w W:World}{b j:Nat}{v:Value}(h:aa All w W)(C:w.heap.size≤b):aa All w (W.setCell ⟨b,j,none⟩ v):=by have o:aa (fun i=>i<w.heap.size) w (W.setCell ⟨b,j,none⟩ v):=(h.mono fun _ _=>trivial).setCell (.inl fun h=>by have:b<w.heap.size:=h;omega) _;exact⟨o.os,o.output,o.size,fun i hi I=>o.block i hi hi⟩
theorem YN (fb fc:Nat)(w:World)(hl:gz w)(h0:w.cell? ⟨fb,0,none⟩=some (.int .i64 0))(h1:w.cell? ⟨fb,1,none⟩=some (.int .i64 1)):
 Calls prog 73 #[.int .i64 2,.slice (some ⟨fb,0,none⟩) 1 fc] w fun e w'=>e=.returned (.tuple #[.slice (some ⟨w.heap.size,0,none⟩) 2 2,.int .i64 0])∧aa All w w'∧al w' w.heap.size 52 #[U 3#64,U 2#64]:=by
 have HL:=oH hl;clear hl;have hm:(Instr.makeSlice 23 (.int .i64 2) (.int .i64 2)).run prog w=.ok (.slice (some ⟨w.heap.size,0,none⟩) 2 2) (w.alloc (.cells (kM 2 fun _=>0#64) 52)):=Jv 2 (by decide) w;obtain⟨W1,a1⟩:=eQ (w.alloc (.cells (kM 2 fun _=>0#64) 52));have a8:=aC1 a1;have b1:al W1 w.heap.size 52 #[U 0#64,U 0#64]:=by rw[a1];exact al.new w _ _
 rw[←a1] at hm;obtain⟨ub,J⟩:=eQ w.heap.size;rw[←J] at hm b1⊢;have H1:=J5 a8 b1 h0 h1 J;clear a8 b1 h0 h1 J a1;go_enter func73,ntmps73;go_upto_region 5 with fail;go_loopg [21] 2 (fun g b3 wr=>∃i:Nat,g=2-i∧i≤2∧b3=.int .i64 i∧aa All w wr∧al wr ub 52 #[U (if 0<i then 1#64 else 0#64),U (if 1<i then 2#64 else 0#64)]);·exact⟨0,rfl,by decide,rfl,H1.1,H1.2.1⟩
 obtain⟨i,b0,hi,rfl,o,C⟩:=hrel;obtain⟨R,Y⟩:=eQ wr;subst Y;have J:w.heap.size≤ub:=by have:=H1.2.2.2.2;omega
 have HB:=J2 o C;clear o;rcases (by omega:i=0∨i=1∨i=2) with rfl|rfl|rfl
 ·have x0:=C.cl 0;have y0:=C.free 0;have a6:=C.set 0 (U 1#64);clear C;go_wp2_with (refine(Dq 0#64 0 (by decide) _).mono ?_;rintro e w' ⟨rfl,rfl⟩);go_roundg 1;·exact⟨1,rfl,by decide,rfl,YM HB.1 J,a6⟩
  omega
 ·have x0:=C.cl 1;have y0:=C.free 1;have a6:=C.set 1 (U 2#64);clear C;go_wp2_with (refine(Dq 0#64 1 (by decide) _).mono ?_;rintro e w' ⟨rfl,rfl⟩);go_roundg 0;·exact⟨2,rfl,by decide,rfl,YM HB.1 J,a6⟩
  omega
 clear C;go_upto_region 10 with fail;go_loopg [32] 1 (fun g b7 wr=>∃i:Nat,g=1-i∧i≤1∧b7=.int .i64 i∧aa All w wr∧al wr ub 52 #[U (if 0<i then 3#64 else 1#64),U 2#64]);·exact⟨0,rfl,by decide,rfl,HB.1,HB.2⟩
 obtain⟨i,b0,hi,rfl,o,C⟩:=hrel;obtain⟨R,Y⟩:=eQ wr;subst Y;have HC:=J2 o C;rcases (by omega:i=0∨i=1) with rfl|rfl
 ·have z0:=o.cell (p:=⟨fb,0,none⟩) trivial H1.2.2.1;have z1:=o.cell (p:=⟨fb,1,none⟩) trivial H1.2.2.2.1;clear o C;have k4:aa All R (R.alloc (.cells #[.int .i64 0,.int .i64 1] 74)):=kR.alloc _;have b4:al (R.alloc (.cells #[.int .i64 0,.int .i64 1] 74)) R.heap.size 74 #[.int .i64 0,.int .i64 1]:=al.new _ _ _;obtain⟨eb,b2⟩:=eQ R.heap.size;go_upto_region 14 with fail;rw[←b2] at b4⊢;generalize R.alloc _=W4 at*;have H4:=J3 (HC.1.trans k4) (HC.2.kept k4 trivial) b4;clear k4 b4 z0 z1 b2;have HV:=oH (fun wn (o:aa All W4 wn)=>show wn.cell? ⟨eb,0,none⟩=some (.int .i64 0)∧wn.cell? ⟨eb,1,none⟩=some (.int .i64 1)∧wn.cell? ⟨ub,0,none⟩=some (U 1#64) from⟨(H4.2.2.kept o trivial).cell 0,(H4.2.2.kept o trivial).cell 1,(H4.2.1.kept o trivial).cell 0⟩);have b8:=oH (fun wn (o:aa All W4 wn)=>show Calls prog 118 #[U 1#64,.int .i64 1] wn (fun e w'=>e=.returned (U 3#64)∧aa All wn w') from(Dq 1#64 1 (by decide) wn).mono fun e w' h=>⟨h.1,h.2▸kR⟩);refine R0 12 W4 (fun i=>if i=10 then some (·=(U 3#64)) else none) ?_;iterate 10 refine O4 HV.out ?_
  refine O5 (v:=(U 3#64)) (fun wn o hp=>⟨_,_,by(skip;go_simp<;>with_reducible rfl),((b8.out wn o).mono fun e w' h=>⟨h.1,o.trans h.2,fun _ h=>by cases h⟩)⟩) ?_;refine O4 HV.out ?_;refine aG fun wt I hF=>?_;have HT:=oH I;clear I hF;simp only[dK];have b5:=H4.2.1.kept HT.out trivial;have x5:=b5.cl 0;have y5:=b5.free 0;have b6:=b5.set 0 (U 3#64);have H5:=J2 (H4.1.trans HT.out) b6;clear b5 b6;go_wp2_with fail;go_roundg 0;·exact⟨1,rfl,by decide,rfl,YM H5.1 J,H5.2⟩
  omega
 clear o C;go_upto_region 17 with fail;go_loopg [70] 2 (fun g b9 wr=>∃i:Nat,g=2-i∧i≤2∧b9=.int .i64 i∧aa All w wr∧al wr ub 52 #[U 3#64,U 2#64]);·exact⟨0,rfl,by decide,rfl,HC.out⟩
 obtain⟨i,b0,hi,rfl,o,C⟩:=hrel;obtain⟨R,Y⟩:=eQ wr;subst Y;have HE:=J2 o C;clear o C;rcases (by omega:i=0∨i=1∨i=2) with rfl|rfl|rfl;·(
 go_upto_region 20 with fail;go_loopg [74] 2 (fun g a7 wr=>∃j:Nat,g=2-j∧j≤2∧a7=.int .i64 j∧aa All w wr∧al wr ub 52 #[U 3#64,U 2#64]);·exact⟨0,rfl,by decide,rfl,HE.out⟩
 obtain⟨j,c0,hj,rfl,o,C⟩:=hrel;obtain⟨R,Y⟩:=eQ wr;subst Y;have HD:=J2 o C;clear o;rcases (by omega:j=0∨j=1∨j=2) with rfl|rfl|rfl
 ·have x0:=C.cl 0;have y0:=C.free 0;have x1:=C.cl 1;have y1:=C.free 1;have hg:(3#64).getLsbD 0=true:=by decide
  have HM:=oH (yJ 3#64 0 (by decide) R);rw[hg] at HM;clear hg C;go_upto_region 23 with (refine HM.out.mono ?_;rintro e w' ⟨rfl,rfl⟩);have HV:=oH (fun wn (o:aa All R wn)=>show wn.cell? ⟨ub,0,none⟩=some (U 3#64)∧wn.cell? ⟨ub,1,none⟩=some (U 2#64) from⟨(HD.2.kept o trivial).cell 0,(HD.2.kept o trivial).cell 1⟩);refine R0 10 R (fun _=>none) ?_;iterate 10 refine O3 (fun wn o hp=>by(obtain⟨q0,q1⟩:=HV.out wn o;have o1:=YL wn 3#64 3#64 3#64 rfl;have o2:=YL wn 3#64 2#64 3#64 rfl;have o3:=YL wn 2#64 2#64 2#64 rfl;go_simp;with_reducible rfl)) ?_
  refine aG fun wt I hF=>?_;have HT:=oH I;clear I hF;simp only[dK];have b5:=HD.2.kept HT.out trivial;have x5:=b5.cl 0;have y5:=b5.free 0;have b6:=b5.set 0 (U 3#64);have H5:=J2 (HD.1.trans HT.out) b6;clear b5 b6 x0 x1 y0 y1;go_wp2_with fail;go_roundg 1;·exact⟨1,rfl,by decide,rfl,YM H5.1 J,H5.2⟩
  omega
 ·have x0:=C.cl 0;have y0:=C.free 0;have x1:=C.cl 1;have y1:=C.free 1;have hg:(2#64).getLsbD 0=false:=by decide
  have HM:=oH (yJ 2#64 0 (by decide) R);rw[hg] at HM;clear hg C;go_wp2_with (refine HM.out.mono ?_;rintro e w' ⟨rfl,rfl⟩);go_roundg 0;·exact⟨2,rfl,by decide,rfl,HD.out⟩
  omega
 clear C;go_wp2_with fail;go_roundg 1;·exact⟨1,rfl,by decide,rfl,HD.out⟩
 omega)
 ·(
 go_upto_region 20 with fail;go_loopg [74] 2 (fun g a7 wr=>∃j:Nat,g=2-j∧j≤2∧a7=.int .i64 j∧aa All w wr∧al wr ub 52 #[U 3#64,U 2#64]);·exact⟨0,rfl,by decide,rfl,HE.out⟩
 obtain⟨j,c0,hj,rfl,o,C⟩:=hrel;obtain⟨R,Y⟩:=eQ wr;subst Y;have HD:=J2 o C;clear o;rcases (by omega:j=0∨j=1∨j=2) with rfl|rfl|rfl
 ·have x0:=C.cl 0;have y0:=C.free 0;have x1:=C.cl 1;have y1:=C.free 1;have hg:(3#64).getLsbD 1=true:=by decide
  have HM:=oH (yJ 3#64 1 (by decide) R);rw[hg] at HM;clear hg C;go_upto_region 23 with (refine HM.out.mono ?_;rintro e w' ⟨rfl,rfl⟩);have HV:=oH (fun wn (o:aa All R wn)=>show wn.cell? ⟨ub,0,none⟩=some (U 3#64)∧wn.cell? ⟨ub,1,none⟩=some (U 2#64) from⟨(HD.2.kept o trivial).cell 0,(HD.2.kept o trivial).cell 1⟩);refine R0 10 R (fun _=>none) ?_;iterate 10 refine O3 (fun wn o hp=>by(obtain⟨q0,q1⟩:=HV.out wn o;have o1:=YL wn 3#64 3#64 3#64 rfl;have o2:=YL wn 3#64 2#64 3#64 rfl;have o3:=YL wn 2#64 2#64 2#64 rfl;go_simp;with_reducible rfl)) ?_
  refine aG fun wt I hF=>?_;have HT:=oH I;clear I hF;simp only[dK];have b5:=HD.2.kept HT.out trivial;have x5:=b5.cl 0;have y5:=b5.free 0;have b6:=b5.set 0 (U 3#64);have H5:=J2 (HD.1.trans HT.out) b6;clear b5 b6 x0 x1 y0 y1;go_wp2_with fail;go_roundg 1;·exact⟨1,rfl,by decide,rfl,YM H5.1 J,H5.2⟩
  omega
 ·have x0:=C.cl 0;have y0:=C.free 0;have x1:=C.cl 1;have y1:=C.free 1;have hg:(2#64).getLsbD 1=true:=by decide
  have HM:=oH (yJ 2#64 1 (by decide) R);rw[hg] at HM;clear hg C;go_upto_region 23 with (refine HM.out.mono ?_;rintro e w' ⟨rfl,rfl⟩);have HV:=oH (fun wn (o:aa All R wn)=>show wn.cell? ⟨ub,0,none⟩=some (U 3#64)∧wn.cell? ⟨ub,1,none⟩=some (U 2#64) from⟨(HD.2.kept o trivial).cell 0,(HD.2.kept o trivial).cell 1⟩);refine R0 10 R (fun _=>none) ?_;iterate 10 refine O3 (fun wn o hp=>by(obtain⟨q0,q1⟩:=HV.out wn o;have o1:=YL wn 3#64 3#64 3#64 rfl;have o2:=YL wn 3#64 2#64 3#64 rfl;have o3:=YL wn 2#64 2#64 2#64 rfl;go_simp;with_reducible rfl)) ?_
  refine aG fun wt I hF=>?_;have HT:=oH I;clear I hF;simp only[dK];have b5:=HD.2.kept HT.out trivial;have x5:=b5.cl 1;have y5:=b5.free 1;have b6:=b5.set 1 (U 2#64);have H5:=J2 (HD.1.trans HT.out) b6;clear b5 b6 x0 x1 y0 y1;go_wp2_with fail;go_roundg 0;·exact⟨2,rfl,by decide,rfl,YM H5.1 J,H5.2⟩
  omega
 clear C;go_wp2_with fail;go_roundg 0;·exact⟨2,rfl,by decide,rfl,HD.out⟩
 omega)
 have HR:=oH (wU (fun b=>b=ub) (.slice (some ⟨ub,0,none⟩) 2 2) [3#64,2#64] R (YO HE.2) (HL.out.keep HE.1));rw[av YP] at HR;go_wp2_with (refine HR.out.mono ?_;rintro e w' ⟨rfl,o⟩);have HF:=J2 (HE.1.trans o) (HE.2.kept o trivial);clear o;go_ret2;exact⟨rfl,HF.out⟩
end
theorem XT {w:World}{B j:Nat}{e:TypeId}{n m:Nat}{v:Value}{xs:List Value}(h:w.ownsRow B e n v m xs)(o:j≤B):w.ownsRow j e n v m xs:=by
 refine⟨h.1,?_⟩;rcases h.2 with C|⟨g,cap,cur,I,J,rest⟩;·exact .inl C
 exact .inr ⟨g,cap,cur,I,fR o J,rest⟩
theorem dR.low {α:Type}{n:Nat}{e:TypeId}{E:cO α}{B o:Nat}{w:World}{v:Value}{l:List α}(h:dR n e E B w v l)(C:o≤B):dR n e E o w v l:=by obtain⟨j,P,R,Y,h3,I,h5⟩:=h;exact⟨j,P,XT R C,Y,h3,fun b J=>⟨fR C (I b J).1,(I b J).2⟩,h5⟩
def Vo {α:Type}(e:TypeId)(E:cO α)(B:Nat)(w:World)(v:Value)(l:List α):Prop:=(l=[]→v=.slice none 0 0)∧dR 2 e E B w v l
theorem Vo.keep {α:Type}{e:TypeId}{E:cO α}(g:cO.Good E){S:Nat→Prop}{B:Nat}{w j:World}{v:Value}{l:List α}(h:Vo e E B w v l)(k:aa S w j)(o:∀b,B≤b→b<w.heap.size→S b):Vo e E B j v l:=⟨h.1,h.2.keep g k o⟩
theorem Vo.zero {α:Type}{e:TypeId}{E:cO α}{B:Nat}{w j:World}{v:Value}{l:List α}(h:Vo e E B w v l)(o:l=[]):Vo e E B j v l:=by subst o;have:=h.1 rfl;subst this;exact⟨fun _=>rfl,dR.nil⟩
structure Yx (B rd:Nat)(W:World)(p:aH)(fl:List (Nat×Nat)):Prop where
 low:rd<B
 size:B≤W.heap.size
 up:p.up=[]
 dep:0≤p.Nc∧p.Nc≤64
 few:p.MZ.length<64∧p.Nb.length<100∧p.Na.length<100
 box:∃a1 c1 a3 c3 a4 c4 a5 c5,al W rd 124 #[.slice a1 p.MZ.length c1,.slice none 0 0,.slice a3 p.Nb.length c3,.slice a4 p.Na.length c4,.int .i64 p.Nc,.slice a5 fl.length c5]∧
  W.ownsRow B 9 1 (.slice a1 p.MZ.length c1) p.MZ.length (p.MZ.map Value.string)∧Vo 228 uy B W (.slice a3 p.Nb.length c3) p.Nb∧Vo 228 uy B W (.slice a4 p.Na.length c4) p.Na∧Vo 74 YG B W (.slice a5 fl.length c5) fl
theorem Yx.keep {B rd:Nat}{W o:World}{p:aH}{fl:List (Nat×Nat)}(h:Yx B rd W p fl)(k:aa (fun b=>b=rd∨B≤b) W o):Yx B rd o p fl:=by obtain⟨I,J,a3,R,a4,Y,a5,c5,j,C,h3,h4,h5⟩:=h.box;exact⟨h.low,fR h.size k.size,h.up,h.dep,h.few,I,J,a3,R,a4,Y,a5,c5,j.kept k (.inl rfl),be C k (fun g hg=>.inr (aD C hg).1),h3.keep FM k (fun b j _=>.inr j),h4.keep FM k (fun b j _=>.inr j),h5.keep Yb k (fun b j _=>.inr j)⟩
theorem YW {n:Int}(j: -1000≤n)(o:n≤1000):(Lit.int .i64 n).wf=true:=by simp only[Lit.wf,IntKind.min,IntKind.max,IntKind.signed,IntKind.bits,gE,qal,if_true];omega
theorem YX {w:World}{B:Nat}{v:Value}{l:List ByteArray}(h:w.ownsRow B 9 1 v l.length (l.map Value.string))(C:l.length≤1000000):gB (fun b=>B≤b∧b<w.heap.size) w v l:=by refine Sl.of_own h (by omega) (fun g j=>aD h j) fun i x o=>⟨.string x,?_,rfl⟩;rw[cL,o];rfl
theorem Yx.pol {B:Nat}{W:World}{p:aH}{j a3 a4:Option Addr}{o C I:Nat}(hu:p.up=[])(J:0≤p.Nc∧p.Nc≤64)(hf:p.MZ.length<64∧p.Nb.length<100∧p.Na.length<100)
 (R:W.ownsRow B 9 1 (.slice j p.MZ.length o) p.MZ.length (p.MZ.map Value.string)) (Y:Vo 228 uy B W (.slice a3 p.Nb.length C) p.Nb) (h4:Vo 228 uy B W (.slice a4 p.Na.length I) p.Na):
 dJ (fun b=>B≤b∧b<W.heap.size) W (.agg #[.slice j p.MZ.length o,.slice none 0 0,.slice a3 p.Nb.length C,.slice a4 p.Na.length I,.int .i64 p.Nc]) p:=
 ⟨_,_,_,_,rfl,YX R (by omega),by rw[hu];exact Sl.nil,Y.2.read (bw:=24) FM (by omega),h4.2.read (bw:=24) FM (by omega),YW (by have:=J.1;omega) (by have:=J.2;omega)⟩
def YS (B rd:Nat)(w:World)(p:aH)(fl:List (Nat×Nat))(e:Ending)(j:World):Prop:=e=.returned (.int .i64 0)∧aa (fun b=>b<B∧b≠rd) w j∧Yx B rd j p fl
theorem Zf {B:Nat}{w:World}{o:Option Addr}{C:Nat}{s:ByteArray}{L:Nat}(h:w.ownsRow B 228 2 (.slice o 1 C) 1 [.string s,.int .i64 L])(J:L≤64):Vo 228 uy B w (.slice o 1 C) [(s,(L:Int))]:=by
 refine⟨(fun e=>by cases e),?_⟩;refine⟨[[.string s,.int .i64 L]],fun _=>False,h,rfl,(fun cs I=>by rw[cx.1 I];rfl),fun _ h=>h.elim,fun i x j=>?_⟩
 match i,j with
 |0,j=>cases j;exact⟨_,rfl,rfl,YW (by omega) (by omega)⟩
 |(i+1),j=>simp at j
theorem Za (B rd:Nat)(p:aH)(w:World)(h:Yx B rd w p [])(hi:p.Nb=[])(R:p.Na=[])(s:ByteArray)(Y:Nat→Prop)(A:Option Addr)(c:Nat)(hv:gB Y w (.slice A 1 c) [s])(hs:∀b,Y b→∃o:World,Yx B rd o p []∧o.heap.size≤b∧aa (fun b=>b=rd∨B≤b) o w)(a6:eZ p s<0)(hn:p.MZ.length<63):
 Calls prog 177 #[.pointer (some ⟨rd,0,none⟩),.slice A 1 c] w (YS B rd w {p with MZ:=p.MZ++[s]} []):=by
 obtain⟨a1,c1,a3,c3,a4,c4,a5,c5,h1,C,h3,h4,h5⟩:=h.box;refine(Zr B rd 0 p a1 a3 a4 a5 c1 c3 c4 c5 s _ Y A c w h1 (Yx.pol h.up h.dep h.few C h3 h4) C h.size hv ?_ a6 (by omega)).mono ?_;·intro b j he;obtain⟨o,R,b2,I⟩:=hs b j;obtain⟨b1,d1,b3,d3,b4,d4,b5,d5,g1,g2,_⟩:=R.box;have a7:=g1.kept I (.inl rfl);have e1:=a7.cl 0;have J:=h1.cl 0;rw[e1] at J;injection J with J;rw[←J] at he;have:=(aD g2 he).2;omega
 rintro e w' ⟨rfl,I,A5,C5,j,hr,_⟩;have a8:=I.size;have b0:=h.low;have b6:(Value.slice a1 p.MZ.length c1).ownBlock≠some rd:=fun e=>by have:=(aD C e).1;omega
 refine⟨rfl,I.mono fun b j=>⟨j.2,fun e=>by have:=(aD C e).1;omega⟩,h.low,fR h.size a8,h.up,h.dep,⟨by rw[iQ];show p.MZ.length+1<64;omega,h.few.2⟩,A5,C5,a3,c3,a4,c4,a5,c5,?_,?_,h3.zero hi,h4.zero R,h5.zero rfl⟩
 ·show al w' rd _ #[.slice A5 (p.MZ++[s]).length C5,_,_,_,_,_]
  rw[iQ];exact j
 show w'.ownsRow B _ 1 (.slice A5 (p.MZ++[s]).length C5) (p.MZ++[s]).length ((p.MZ++[s]).map Value.string);rw[iQ,ic];exact hr
theorem ZE (B rd:Nat)(p:aH)(w:World)(h:Yx B rd w p [])(s s2:ByteArray)(S2:Nat→Prop)(A:Option Addr)(c:Nat)(hv:gB S2 w (.slice A 2 c) [s,s2])(J R:Nat)(hL:eZ p s=J)(Y:eZ p s2=R):
 Calls prog 178 #[.pointer (some ⟨rd,0,none⟩),.slice A 2 c] w (YS B rd w p [(J,R)]):=by
 obtain⟨a1,c1,a3,c3,a4,c4,a5,c5,o,h2,h3,h4,h5⟩:=h.box;have e5:=h5.1 rfl;injection e5 with e5 e6 e7;subst e5;subst e7;refine(Zz B rd _ _ _ p.Nc p a1 a3 a4 c1 c3 c4 s s2 J R _ S2 A c w o (Yx.pol h.up h.dep h.few h2 h3 h4) h.size hv hL Y).mono ?_;rintro e w' ⟨rfl,C,A5,C5,I,hr⟩;have a6:=C.size;have a7:=h.low;have j:∀b,B≤b→b≠rd:=fun b I=>by omega
 exact⟨rfl,C.mono fun b I=>I.2,h.low,fR h.size a6,h.up,h.dep,h.few,a1,c1,a3,c3,a4,c4,A5,C5,I,be h2 C (fun g hg=>j _ (aD h2 hg).1),h3.keep FM C (fun b o _=>j _ o),h4.keep FM C (fun b o _=>j _ o),(fun e=>by cases e),hr.low h.size⟩
theorem Zu (B rd:Nat)(p:aH)(fl:List (Nat×Nat))(w:World)(h:Yx B rd w p fl)(hi:p.Nb=[])(s s2:ByteArray)(S2:Nat→Prop)(A:Option Addr)(c:Nat)(hv:gB S2 w (.slice A 2 c) [s,s2])(L:Nat)(hL:eZ p s2=L)(hz:L≤64)(hs:s.size≤65536):
 Calls prog 179 #[.pointer (some ⟨rd,0,none⟩),.slice A 2 c] w (YS B rd w {p with Nb:=[(s,(L:Int))]} fl):=by
 obtain⟨a1,c1,a3,c3,a4,c4,a5,c5,o,J,h3,h4,h5⟩:=h.box;have hp:=Yx.pol h.up h.dep h.few J h3 h4;have R:=h3.1 hi;injection R with R e6 e7;subst R;subst e7;rw[e6] at o hp;refine(Zq B rd _ _ p.Nc p a1 a4 a5 c1 _ c4 c5 s s2 L _ S2 A c w o hp h.size hv hL hs).mono ?_;rintro e w' ⟨rfl,C,A5,C5,I,hr,_⟩;have Y:=C.size;have a6:=h.low;have j:∀b,B≤b→b≠rd:=fun b I=>by omega
 exact⟨rfl,C.mono fun b I=>I.2,h.low,fR h.size Y,h.up,h.dep,⟨h.few.1,by show 1<100;decide,h.few.2.2⟩,a1,c1,A5,C5,a4,c4,a5,c5,I,be J C (fun g hg=>j _ (aD J hg).1),Zf hr hz,h4.keep FM C (fun b o _=>j _ o),h5.keep Yb C (fun b o _=>j _ o)⟩
theorem Zm (B rd:Nat)(p:aH)(fl:List (Nat×Nat))(w:World)(h:Yx B rd w p fl)(hi:p.Na=[])(s s2:ByteArray)(S2:Nat→Prop)(A:Option Addr)(c:Nat)(hv:gB S2 w (.slice A 2 c) [s,s2])(L:Nat)(hL:eZ p s2=L)(hz:L≤64)(hs:s.size≤65536):
 Calls prog 180 #[.pointer (some ⟨rd,0,none⟩),.slice A 2 c] w (YS B rd w {p with Na:=[(s,(L:Int))]} fl):=by
 obtain⟨a1,c1,a3,c3,a4,c4,a5,c5,o,J,h3,h4,h5⟩:=h.box;have hp:=Yx.pol h.up h.dep h.few J h3 h4;have R:=h4.1 hi;injection R with R e6 e7;subst R;subst e7;rw[e6] at o hp;refine(Zk B rd _ _ p.Nc p a1 a3 a5 c1 _ c3 c5 s s2 L _ S2 A c w o hp h.size hv hL hs).mono ?_;rintro e w' ⟨rfl,C,A5,C5,I,hr,_⟩;have Y:=C.size;have a6:=h.low;have j:∀b,B≤b→b≠rd:=fun b I=>by omega
 exact⟨rfl,C.mono fun b I=>I.2,h.low,fR h.size Y,h.up,h.dep,⟨h.few.1,h.few.2.1,by show 1<100;decide⟩,a1,c1,a3,c3,A5,C5,a5,c5,I,be J C (fun g hg=>j _ (aD J hg).1),h3.keep FM C (fun b o _=>j _ o),Zf hr hz,h5.keep Yb C (fun b o _=>j _ o)⟩
theorem Zt (B rd:Nat)(p:aH)(fl:List (Nat×Nat))(w:World)(h:Yx B rd w p fl)(hi:p.Nc=0)(s:ByteArray)(S2:Nat→Prop)(A:Option Addr)(c d:Nat)(hv:gB S2 w (.slice A 1 c) [s])(hs:s.size≤65536)(J:Ab s=true)(R:s.size=0∨Ai s 0≠45)(hn:Os s=some d)(Y:1≤d)(a6:d≤64):
 Calls prog 181 #[.pointer (some ⟨rd,0,none⟩),.slice A 1 c] w (YS B rd w {p with Nc:=(d:Int)} fl):=by
 obtain⟨a1,c1,a3,c3,a4,c4,a5,c5,o,h2,h3,h4,h5⟩:=h.box;rw[hi] at o;refine(Zw rd _ _ _ _ _ d s S2 A c w o hv hs J R hn Y a6).mono ?_;rintro e w' ⟨rfl,C,I⟩;have a7:=C.size;have a8:=h.low;have j:∀b,B≤b→b≠rd:=fun b I=>by omega
 exact⟨rfl,C.mono fun b I=>I.2,h.low,fR h.size a7,h.up,⟨by show(0:Int)≤d;omega,by show(d:Int)≤64;omega⟩,h.few,a1,c1,a3,c3,a4,c4,a5,c5,I,be h2 C (fun g hg=>j _ (aD h2 hg).1),h3.keep FM C (fun b o _=>j _ o),h4.keep FM C (fun b o _=>j _ o),h5.keep Yb C (fun b o _=>j _ o)⟩
section
def XY (s:ByteArray):Bool:=(List.range 13).any fun i=>decide (0<i)&&(nt i).toList==s.toList
theorem Wv (s:ByteArray)(w:World)(C:gz w)(I:XY s=false):Calls prog 248 #[.string s] w fun e Y=>e=.returned (.tuple #[.int .u8 0,.bool false])∧w=Y:=by
 have J:=J2 C I;clear C I;go_enter func248,ntmps248;go_wp2;go_loopg [5] 13 (fun g s5 wr=>∃i:Nat,g=13-i∧s5=.int .i64 i∧i≤13∧w=wr);·exact⟨0,by omega,rfl,by omega,rfl⟩
 obtain⟨i,rfl,rfl,hi,rfl⟩:=hrel;by_cases j:i<13;·(
 have hc:=J.1.2 i j;have hd:decide (13>(i:Int))=true:=by simp;omega
 by_cases h0:0<i
 ·have a1:((nt i).toList==s.toList)=false:=by have h:=J.2;unfold XY at h;have R:=List.any_eq_false.1 h i (fg.2 j);simp only[gE,qal,not_and,Bool.not_eq_true] at R;exact R h0
  have o:decide (0<(i:Int))=true:=by simp;omega
  go_wp2;go_roundg (13-(i+1));·exact⟨i+1,rfl,by go_num,by omega,rfl⟩
  omega
 have o:decide (0<(i:Int))=false:=by simp;omega
 go_wp2;go_roundg (13-(i+1));·exact⟨i+1,rfl,by go_num,by omega,rfl⟩
 omega)
 obtain rfl:i=13:=by omega
 go_wp2;go_ret2;exact⟨rfl,rfl⟩
theorem Xf (f:FuncId)(w:World):(binOp .neq 289 (.func (.func f) #[] #[]) .nilFunc).run prog w=.ok (.bool true) w:=by kernel_rfl
theorem Ya (f:FuncId)(w:World):(binOp .eql 289 (.func (.func f) #[] #[]) .nilFunc).run prog w=.ok (.bool false) w:=by kernel_rfl
theorem XQ (w:World):(binOp .neq 289 .nilFunc .nilFunc).run prog w=.ok (.bool false) w:=by kernel_rfl
theorem XP (w:World):(binOp .eql 289 .nilFunc .nilFunc).run prog w=.ok (.bool true) w:=by kernel_rfl
attribute [local go_sem] Xf
theorem TZ {p:cr}{x x':cX}{k k':Nat}(h:Uz p x k=some (x',k')):
 (p.txt k=UO∧∃n,p.is (k+1) 3=true∧Os (p.txt (k+1))=some n∧x'= {x with kind:=1,num:=n}∧k'=k+1+1)∨
 (p.txt k=WZ∧p.txt (k+1)=Yv∧∃C I o,UH p 65 0 (k+1+1) [] []=some (C,I,o)∧p.txt o=Yw∧x'= {x with kind:=3,Nh:=C,args:=I}∧k'=o+1):=by
 unfold Uz at h;split at h
 ·rename_i J;left;unfold Ty at h;by_cases j:p.is (k+1) 3=true
  ·simp only[j,if_true,Option.bind_eq_bind,Option.bind_some] at h;cases Y:Os (p.txt (k+1)) with
   |none=>rw[Y] at h;cases h
   |some n=>rw[Y] at h;cases h;exact⟨J,n,j,rfl,rfl,rfl⟩
  simp[j] at h
 split at h;·(
 rename_i J;right;unfold TR at h;by_cases j:p.txt (k+1)=Yv
 ·simp only[j,if_true,Option.bind_eq_bind,Option.bind_some] at h;cases hq:UH p 65 0 (k+1+1) [] [] with
  |none=>rw[hq] at h;cases h
  |some r=>
   obtain⟨C,I,o⟩:=r;rw[hq] at h;simp only[Option.bind_some] at h;by_cases R:p.txt o=Yw;·simp only[R,if_true,Option.bind_some] at h;cases h;exact⟨J,j,C,I,o,rfl,R,rfl,rfl⟩
   simp[R] at h
 simp[j] at h)
 cases h
theorem Wi (B pb xb:Nat)(p:cr)(A:Option Addr)(C k m k':Nat)(x x':cX)(w:World)(h:PB w B pb p A C k m)(hx:Uh w B xb x)(hp:p.Ok)(hl:gz w)(ha:x.args=[])(hf:x.Nh=[])(hr:Uz p x k=some (x',k')):
 Calls prog 230 #[.pointer (some ⟨pb,0,none⟩),.pointer (some ⟨xb,0,none⟩)] w (Ua B pb xb p A C m k' x' w):=by
 have H0:=J2 (St.first h hx) hl;have a6:=J2 ha hf;have b1:=hp.len;clear h hx hl ha hf;rcases TZ hr with ⟨hw,n,hq,hn,rfl,rfl⟩|⟨hw,hq,fr,ar,k2,a7,a8,rfl,rfl⟩
 ·have HQ:=oH hw;have b0:=TM (p:=p) (k:=k) (by rw[hw];decide);clear hw hr;go_enter func230,ntmps230;go_wp2_with fail;refine(xt pb p A C k m 0 w H0.1.par.pat hp (by omega)).mono ?_;rintro e w1 ⟨rfl,o⟩;rw[dj,HQ.out];have H1:=J2 (H0.1.all o) (H0.2.keep o);clear o;go_wp2_with fail;refine(Wv UO w1 H1.2 (by kernel_rfl)).mono ?_;rintro e w2 ⟨rfl,rfl⟩;go_wp2_with fail;refine(UX w1).mono ?_;rintro e w3 ⟨b,g4,g5,rfl,j,J⟩;have H3:=oH (H1.1.all J);have R:=Ux UO (by decide) j;rw[show(TH (Tz g4 g5) UO).getD .nilFunc=.func (.func 252) #[] #[] from rfl] at R;have I:=H3.out.par.box;have b2:=I.cl 2;have f2:=I.free 2;clear J j I;go_upto_region 11 with fail;have Y:wi pb p A C (k+1) m w3 (w3.setCell ⟨pb,2,none⟩ (.int .i64 ((k+1:Nat)))):=wi.of H3.out.par.pat kR (by omega);have H4:=oH (show St w B pb xb p A C m (k+1) x (w3.setCell ⟨pb,2,none⟩ (.int .i64 ((k:Int)+1))) by simpa using H3.out.moved Y);clear Y;generalize w3.setCell _ _=W4 at*;clear b2 f2 R;go_wp2_with fail;refine(VW B pb xb p A C (k+1) m x W4 H4.out.par H4.out.Nb hp n hq hn).mono ?_;rintro e W5 ⟨rfl,a1⟩;have H5:=oH (Ts H4.out a1);clear a1;go_wp2_with fail
  go_end0
  exact⟨rfl,H5.out⟩
 have HQ:=oH hw;have b0:=TM (p:=p) (k:=k) (by rw[hw];decide);clear hw hr;go_enter func230,ntmps230;go_wp2_with fail;refine(xt pb p A C k m 0 w H0.1.par.pat hp (by omega)).mono ?_;rintro e w1 ⟨rfl,o⟩;rw[dj,HQ.out];have H1:=J2 (H0.1.all o) (H0.2.keep o);clear o;go_wp2_with fail;refine(Wv WZ w1 H1.2 (by kernel_rfl)).mono ?_;rintro e w2 ⟨rfl,rfl⟩;go_wp2_with fail;refine(UX w1).mono ?_;rintro e w3 ⟨b,g4,g5,rfl,j,J⟩;have H3:=oH (H1.1.all J);have R:=Ux WZ (by decide) j;rw[show(TH (Tz g4 g5) WZ).getD .nilFunc=.func (.func 256) #[] #[] from rfl] at R;have I:=H3.out.par.box;have b2:=I.cl 2;have f2:=I.free 2;clear J j I;go_upto_region 11 with fail;have Y:wi pb p A C (k+1) m w3 (w3.setCell ⟨pb,2,none⟩ (.int .i64 ((k+1:Nat)))):=wi.of H3.out.par.pat kR (by omega);have H4:=oH (show St w B pb xb p A C m (k+1) x (w3.setCell ⟨pb,2,none⟩ (.int .i64 ((k:Int)+1))) by simpa using H3.out.moved Y);clear Y;generalize w3.setCell _ _=W4 at*;clear b2 f2 R;go_wp2_with fail;refine(WW B pb xb p A C (k+1) m k2 x fr ar W4 H4.out.par H4.out.Nb hp hq (by rw[a6.1,a6.2];exact a7) a8 (by rw[a6.1];decide) (by rw[a6.2];decide)).mono ?_;rintro e W5 ⟨rfl,a1⟩;have H5:=oH (Ts H4.out a1);clear a1;go_wp2_with fail
 go_end0
 exact⟨rfl,H5.out⟩
end
section
attribute [local go_sem] Xf Ya XQ XP
def wg (x:cX)(a f:Value):Array Value:=#[.int .u8 x.kind,.int .u8 x.op,.string x.dst,.string x.ref,.string x.Ni,a,f,.int .i64 x.num,.int .i64 x.Nj]
theorem VQ {w:World}{B:Nat}{v:Value}{l:List ByteArray}{S:Nat→Prop}(h:Tx B w v l)(I:l.length≤1000000)(o:∀b,B≤b→b<w.heap.size→S b):gB S w v l:=by refine Sl.of_own h (by omega) (fun g j=>o g (aD h j).1 (aD h j).2) fun i x C=>⟨.string x,?_,rfl⟩;rw[cL,C];rfl
def Vn (pb:Nat)(p:cr)(A:Option Addr)(C k' o:Nat)(x:cX)(w:World)(e:Ending)(j:World):Prop:=
 wi pb p A C k' o w j∧∃a f:Value,e=.returned (.agg (wg x a f))∧gB (fun b=>w.heap.size≤b∧b<j.heap.size) j a x.args∧gB (fun b=>w.heap.size≤b∧b<j.heap.size) j f x.Nh
theorem St.code {o w:World}{B pb I m k:Nat}{p:cr}{A:Option Addr}{C:Nat}{x:cX}(h:St o B pb I p A C m k x w):St o B pb I p A C (m+1) k x (w.setCell ⟨pb,3,none⟩ (.int .i64 ((m:Int)+1))):=by have J:aa (fun b=>b≠pb) w (w.setCell ⟨pb,3,none⟩ (.int .i64 ((m:Int)+1))):=kR.setCell (.inl fun h=>h rfl) _;have hm:wi pb p A C k (m+1) w (w.setCell ⟨pb,3,none⟩ (.int .i64 ((m:Int)+1))):=⟨J,by simpa using h.par.box.set 3 (.int .i64 ((m:Int)+1)),cu.wide (fun b j=>⟨j.1,by have:=h.par.size;simp;omega⟩) (cu.keep (J.mono fun b j=>j.1) h.par.toks),h.par.le⟩;exact h.moved hm
theorem TW {p:cr}{k k':Nat}{x:cX}(h:TV p k=some (x,k')):
 (p.is k 1=true∧p.txt (k+1)=YA∧Uz p {Va with dst:=p.txt k,Nj:=p.pos k} (k+1+1)=some (x,k'))∨
 (p.is k 1=false∧((p.txt k=XX∧p.is (k+1) 1=true∧x= {Va with Nj:=p.pos k,kind:=11,ref:=p.txt (k+1)}∧k'=k+1+1)∨
  (p.txt k=Ww∧p.is (k+1) 1=true∧p.is (k+1+1) 1=true∧p.is (k+1+1+1) 1=true∧x= {Va with Nj:=p.pos k,kind:=12,args:=[p.txt (k+1)],ref:=p.txt (k+1+1),Ni:=p.txt (k+1+1+1)}∧k'=k+1+1+1+1)∨
  (p.txt k=Wx∧p.is (k+1) 1=true∧x= {Va with Nj:=p.pos k,kind:=13,args:=[p.txt (k+1)]}∧k'=k+1+1))):=by
 unfold TV at h;by_cases C:p.is k 1=true
 ·left;simp only[C,if_true] at h;split at h;·rename_i o;exact⟨C,o,h⟩
  cases h
 right;simp only[C] at h;refine⟨by simpa using C,?_⟩;unfold Yl Ty at h;simp only[jL,if_false] at h;split at h
 ·rename_i o;left;by_cases j:p.is (k+1) 1=true
  ·simp only[j,if_true,Option.bind_eq_bind,Option.bind_some] at h
   cases h;exact⟨o,j,rfl,rfl⟩
  simp[j] at h
 split at h;·(
 rename_i o;right;left;by_cases j:p.is (k+1) 1=true
 ·by_cases I:p.is (k+1+1) 1=true
  ·(
 by_cases J:p.is (k+1+1+1) 1=true
 ·simp only[j,I,J,if_true,Option.bind_eq_bind,Option.bind_some] at h
  cases h;exact⟨o,j,I,J,rfl,rfl⟩
 simp[j,I,J] at h)
  simp[j,I] at h
 simp[j] at h)
 split at h
 ·rename_i o;right;right;by_cases j:p.is (k+1) 1=true
  ·simp only[j,if_true,Option.bind_eq_bind,Option.bind_some] at h
   cases h;exact⟨o,j,rfl,rfl⟩
  simp[j] at h
 cases h
theorem VM {p:cr}:∀ {f n k:Nat} {I J j o:List ByteArray} {k':Nat},UH p f n k I J=some (j,o,k')→j.length≤I.length+f∧o.length≤J.length+f
 |0,_,_,_,_,_,_,_,h=>by cases h
 |f+1,n,k,I,J,j,o,k',h=>by(
 obtain⟨_,_,_,_,R⟩:=Uv h;split at R;·have h6:=VM R;rw[iQ,iQ] at h6;have Y:[p.txt k].length=1:=rfl;have C:[p.txt (k+1+1)].length=1:=rfl;omega
 injection R with Y C;injection C with C e3;subst Y;subst C;rw[iQ,iQ];have Y:[p.txt k].length=1:=rfl;have C:[p.txt (k+1+1)].length=1:=rfl;omega)
theorem WT {p:cr}{x x':cX}{k k':Nat}(h:Uz p x k=some (x',k'))(j:x.args=[]:=by rfl)(o:x.Nh=[]:=by rfl):x'.args.length≤1000∧x'.Nh.length≤1000:=by
 rcases TZ h with ⟨_,n,_,_,rfl,_⟩|⟨_,_,C,I,R,J,_,rfl,_⟩
 ·rw[show({x with kind:=1,num:=(n:Int)}:cX).args=[] from j,show({x with kind:=1,num:=(n:Int)}:cX).Nh=[] from o]
  exact⟨by decide,by decide⟩
 have:=VM J;have e:([]:List ByteArray).length=0:=rfl;show I.length≤_∧C.length≤_;omega
theorem Yc {p:cr}(o:p.Ok){k:Nat}(h:p.is k 1=true):jv (p.txt k)=false:=by
 unfold cr.is at h;unfold cr.txt;cases j:p.l[k]? with
 |none=>rw[j] at h;cases h
 |some t=>rw[j] at h;exact o.word t (mG j) (by simpa using h)
theorem Vr {s t:ByteArray}(h:(s==t)=true):s=t:=by cases s;cases t;have h':(_==_)=true:=h;congr 1;exact eq_of_beq h
theorem WL {s:ByteArray}(h:jv s=false):TH UN s=none:=by
 unfold TH;rw[Option.map_eq_none_iff,List.find?_eq_none];intro x j he;have e:s=x.1:=Vr he;have:jv x.1=true:=by unfold UN at j;simp only[fX,List.not_mem_nil,or_false] at j;rcases j with rfl|rfl|rfl|rfl|rfl<;>kernel_rfl
 rw[e,this] at h;cases h
theorem XO {j w:World}{B R pb Y m k k2 m2:Nat}{p:cr}{A:Option Addr}{C:Nat}{x:cX}(h:St j B pb Y p A C m k x w)(I:B=j.heap.size)(o:gz j)(J:PB j R pb p A C k2 m2):gz w:=by
 have q0:=J.box.cl 0;have q2:=J.box.cl 2;refine⟨fun i hi=>h.kept.cell (p:=⟨4,i,none⟩) ⟨?_,?_⟩ (o.1 i hi),fun i hi=>h.kept.cell (p:=⟨3,i,none⟩) ⟨?_,?_⟩ (o.2 i hi)⟩
 ·rintro rfl
  have:=o.1 0 (by decide);rw[q0] at this;cases this
 ·rw[I];exact jy j _ (o.1 i hi)
 ·rintro rfl
  have:=o.2 2 (by decide);rw[q2] at this;cases this
 rw[I];exact jy j _ (o.2 i hi)
theorem XL {j:Ending→World→Prop}{a:Act}{W:World}{g:Nat}{x:cX}{u v:Value}(o:a.tmps[2]? =some (.pointer (some ⟨g,0,none⟩)))(C:a.defers=[])
 (c:al W g 185 (wg x u v)) (h:j (.returned (.agg (wg x u v))) W):bodyPost prog Tryz.f195 j .ret a W:=by
 unfold wg at c;obtain⟨I,r1,r2,J,R,Y,r6,r7,r8⟩:=c.c9;exact bodyPost_ret (by simp[results,Tryz.results195,go_sem,o,I,r1,r2,J,R,Y,r6,r7,r8,wg]) C h
theorem UK (pb:Nat)(p:cr)(A:Option Addr)(C k m k0 m0:Nat)(x:cX)(w J W:World)(R Y:Option Addr)(aC fC:Nat)(B xb:Nat)(a:Act)(ht:a.tmps[2]? =some (.pointer (some ⟨w.heap.size,0,none⟩)))(hd:a.defers=[])(hP:Uo w pb p A C k0 m0)(a1:aa All w J)(hB:B=J.heap.size)
 (hs:St J B pb xb p A C m k x W) {cs:List Value} (I:al W w.heap.size 185 cs.toArray) (a6:cs.length=9) (hw:w.heap.size<J.heap.size) (ra:Tx B W (.slice R x.args.length aC) x.args) (rf:Tx B W (.slice Y x.Nh.length fC) x.Nh) (l1:x.args.length≤1000) (l2:x.Nh.length≤1000):
 bodyPost prog Tryz.f195 (Vn pb p A C k m x w) .ret a (((((((((W.setCell ⟨w.heap.size,0,none⟩ (.int .u8 x.kind)).setCell ⟨w.heap.size,1,none⟩ (.int .u8 x.op)).setCell ⟨w.heap.size,2,none⟩ (.string x.dst)).setCell ⟨w.heap.size,3,none⟩ (.string x.ref)).setCell ⟨w.heap.size,4,none⟩ (.string x.Ni)).setCell ⟨w.heap.size,5,none⟩ (.slice R x.args.length aC)).setCell ⟨w.heap.size,6,none⟩ (.slice Y x.Nh.length fC)).setCell ⟨w.heap.size,7,none⟩ (.int .i64 x.num)).setCell ⟨w.heap.size,8,none⟩ (.int .i64 x.Nj)):=by
 obtain⟨c0,c1,c2,c3,c4,c5,c6,c7,c8,rfl⟩:∃c0 c1 c2 c3 c4 c5 c6 c7 c8,cs=[c0,c1,c2,c3,c4,c5,c6,c7,c8]:=by
  match cs,a6 with
  | [a,b,c,d,e,f,g,h,i],_=>exact⟨a,b,c,d,e,f,g,h,i,rfl⟩
 have bF:=((((((((I.set 0 (.int .u8 x.kind)).set 1 (.int .u8 x.op)).set 2 (.string x.dst)).set 3 (.string x.ref)).set 4 (.string x.Ni)).set 5 (.slice R x.args.length aC)).set 6 (.slice Y x.Nh.length fC)).set 7 (.int .i64 x.num)).set 8 (.int .i64 x.Nj);have kF:=((((((((((aa.refl (fun b=>b≠w.heap.size) W).setCell (p:=⟨w.heap.size,0,none⟩) (.inl fun h=>h rfl) (.int .u8 x.kind)).setCell (p:=⟨w.heap.size,1,none⟩) (.inl fun h=>h rfl) (.int .u8 x.op)).setCell (p:=⟨w.heap.size,2,none⟩) (.inl fun h=>h rfl) (.string x.dst)).setCell (p:=⟨w.heap.size,3,none⟩) (.inl fun h=>h rfl) (.string x.ref)).setCell (p:=⟨w.heap.size,4,none⟩) (.inl fun h=>h rfl) (.string x.Ni)).setCell (p:=⟨w.heap.size,5,none⟩) (.inl fun h=>h rfl) (.slice R x.args.length aC)).setCell (p:=⟨w.heap.size,6,none⟩) (.inl fun h=>h rfl) (.slice Y x.Nh.length fC)).setCell (p:=⟨w.heap.size,7,none⟩) (.inl fun h=>h rfl) (.int .i64 x.num)).setCell (p:=⟨w.heap.size,8,none⟩) (.inl fun h=>h rfl) (.int .i64 x.Nj));simp only[ga] at bF;generalize World.setCell _ ⟨w.heap.size,8,none⟩ _=WF at*;have a7:pb≠w.heap.size:=fun e=>by have j:=hs.par.box;subst e;exact absurd rfl (j.ne I (by decide))
 have a8:=be ra kF fun g hg=>by have:=(aD ra hg).1;show g≠w.heap.size;omega
 have b0:=be rf kF fun g hg=>by have:=(aD rf hg).1;show g≠w.heap.size;omega
 have b1:=kF.size;have kw:aa (fun b=>b≠pb) w WF:=by have j:aa (fun b=>b≠pb∧b<w.heap.size) w WF:=((a1.all.trans (hs.kept.mono fun b o=>⟨o.1,by have:=o.2;omega⟩)).trans (kF.mono fun b o=>by have:=o.2;show b≠w.heap.size;omega));exact⟨j.os,j.output,j.size,fun i hi hS=>j.block i hi ⟨hS,hi⟩⟩
 refine XL ht hd bF ⟨⟨kw,?_⟩,_,_,rfl,VQ a8 (by omega) fun b j h2=>⟨by omega,h2⟩,VQ b0 (by omega) fun b j h2=>⟨by omega,h2⟩⟩;exact⟨hs.par.box.kept kF a7,cu.wide (fun b o=>⟨o.1,by have:=kw.size;omega⟩) (cu.keep (kw.mono fun b o=>o.1) hP.toks),hs.par.le⟩
theorem Wc (pb:Nat)(p:cr)(A:Option Addr)(C k m k':Nat)(x:cX)(w:World)(h:Uo w pb p A C k m)(hp:p.Ok)(hl:gz w)(hm:m<4096)(hr:TV p k=some (x,k')):
 Calls prog 195 #[.pointer (some ⟨pb,0,none⟩)] w (Vn pb p A C k' (m+1) x w):=by
 obtain⟨Z,hZ⟩:∃Z:Value,Z=.string gR:=⟨_,rfl⟩;obtain⟨W0,b7⟩:=eQ (w.alloc (.cells (wg Va (.slice none 0 0) (.slice none 0 0)) 185));have b8:=aC1 b7;have bR:al W0 w.heap.size 185 (wg Va (.slice none 0 0) (.slice none 0 0)):=by rw[b7];exact al.new _ _ _
 have e4:=(h.keep b8).pb;have a7:=oH h;have H0:=J5 b7 b8 bR e4 (hl.keep b8);have j0:=hp.len;clear h hl b7 b8 bR e4;go_enter func195,ntmps195;go_upto_region 1 with fail;rw[show w.alloc (.cells #[.int .u8 0,.int .u8 0,.string ⟨#[]⟩,.string ⟨#[]⟩,.string ⟨#[]⟩,.slice none 0 0,.slice none 0 0,.int .i64 0,.int .i64 0] 185)=W0 from H0.1.symm];go_wp2_with fail;refine(Vv pb p A C k m W0 H0.2.2.2.1.pat hp).mono ?_;rintro e w1 ⟨rfl,b5⟩;go_upto_region 2 with fail;have k2:aa All w1 (w1.alloc (.cells #[.int .u8 0,.int .u8 0,.string ⟨#[]⟩,.string ⟨#[]⟩,.string ⟨#[]⟩,.slice none 0 0,.slice none 0 0,.int .i64 0,.int .i64 (p.pos k)] 185)):=kR.alloc _;have b2:al (w1.alloc (.cells #[.int .u8 0,.int .u8 0,.string ⟨#[]⟩,.string ⟨#[]⟩,.string ⟨#[]⟩,.slice none 0 0,.slice none 0 0,.int .i64 0,.int .i64 (p.pos k)] 185)) w1.heap.size 185 #[.int .u8 0,.int .u8 0,.string ⟨#[]⟩,.string ⟨#[]⟩,.string ⟨#[]⟩,.slice none 0 0,.slice none 0 0,.int .i64 0,.int .i64 (p.pos k)]:=al.new _ _ _;obtain⟨xb,e5⟩:=eQ w1.heap.size;obtain⟨B,hB⟩:=eQ W0.heap.size;rw[←e5] at b2⊢;generalize w1.alloc _=W2 at*;have h5:B≤xb:=by have:=b5.size;omega
 have H2:=oH (show St W0 B pb xb p A C m k {Va with Nj:=p.pos k} W2 from⟨(b5.trans k2).all,by rw[hB];exact H0.2.2.2.1.kept (b5.trans k2) fun _ _=>trivial,none,0,none,0,b2,⟨by simp[Va],.inl ⟨rfl,rfl⟩⟩,⟨by simp[Va],.inl ⟨rfl,rfl⟩⟩,(fun _ h=>by cases h),h5⟩);have HL:=J2 (H0.2.2.2.2.keep (b5.trans k2)) hB;clear b5 k2 b2 e5 hB;go_wp2_with fail;refine(WV W2).mono ?_;rintro e w3 ⟨b,rfl,d8,e0⟩;have H3:=oH (H2.out.all e0);have e6:=J2 (HL.1.keep e0) d8;clear e0 d8;go_wp2_with fail;refine(xt pb p A C k m 0 w3 H3.out.par.pat hp (by omega)).mono ?_;rintro e w4 ⟨rfl,b9⟩;rw[dj];have e7:=Ux (p.txt k) (by have:=(TJ hp k).2;unfold maxLen;omega) (e6.2.kept b9);obtain⟨t,ht⟩:=eQ ((TH UN (p.txt k)).getD .nilFunc);rw[←ht] at e7;have HT:=oH ht;have H4:=J2 (H3.out.all b9) (e6.1.keep b9);clear b9 ht;go_upto_region 3 with fail;clear e7;go_wp2_with fail;refine(TC pb p A C k m 1 w4 H4.1.par.pat hp).mono ?_;rintro e w5 ⟨rfl,e1⟩;have H5:=J2 (H4.1.all e1) (H4.2.keep e1);clear e1;rcases TW hr with ⟨hq,c9,hv⟩|⟨hq,e8⟩
 ·have e9:=WL (Yc hp hq);have b0:t=.nilFunc:=by rw[HT.out,e9];rfl
  subst b0;rw[hq];have heq:((p.txt (k+1)).toList==[61])=true:=by rw[TY _ _ YA (by kernel_rfl),bL c9]
  have HQ:=J3 hq c9 hv;have e2:=TM (p:=p) (k:=k+1) (by rw[c9];decide);clear e9 c9 hr hv;go_wp2_with fail;refine(TC pb p A C k m 1 w5 H5.1.par.pat hp).mono ?_;rintro e w6 ⟨rfl,Y⟩;rw[hq];have H6:=J2 (H5.1.all Y) (H5.2.keep Y);clear Y hq;go_wp2_with fail;refine(xt pb p A C k m 1 w6 H6.1.par.pat hp (by omega)).mono ?_;rintro e w7 ⟨rfl,e3⟩;have H7:=J2 (H6.1.all e3) (H6.2.keep e3);clear e3;have I:=H7.1.par.box;have b3:=I.cl 3;have f3:=I.free 3;clear I;go_wp2_with fail;refine(To pb m 4096 w7 hm).mono ?_;rintro e w8 ⟨rfl,rfl⟩;go_upto_region 10 with fail;clear b3 f3 heq;have h8:=H7.1.code;generalize w7.setCell _ _=W8 at*;have H8:=J2 h8 h8;clear h8;go_wp2_with fail;refine(xi pb p A C k (m+1) W8 H8.1.par.pat hp HQ.1).mono ?_;rintro e W9 ⟨rfl,h0⟩;have H9:=oH (H8.1.moved h0);clear h0;obtain⟨u2,h6⟩:=H9.out.Nb.cellAt 2 (by decide);have h7:=H9.out.Nb.free 2;go_upto_region 15 with fail;have h2:=H9.out.set 2 (.string (p.txt k)) (x':= {Va with dst:=p.txt k,Nj:=p.pos k}) rfl rfl (fun _ _=>rfl);generalize W9.setCell _ _=h9 at*;have h3:=oH h2;clear h2 h6 h7;go_wp2_with fail;refine(Ar pb p A C (k+1) (m+1) ⟨#[61]⟩ h9 h3.out.par.pat hp HQ.2.1 (by decide)).mono ?_;rintro e i1 ⟨rfl,d9⟩;have d7:=oH (h3.out.moved d9);clear d9;go_wp2_with fail;refine(Wi B pb xb p A C (k+1+1) (m+1) k' {Va with dst:=p.txt k,Nj:=p.pos k} x i1 d7.out.par d7.out.Nb hp (XO d7.out HL.2 H0.2.2.2.2 H0.2.2.2.1) rfl rfl HQ.2.2).mono ?_;rintro e b1 ⟨rfl,J⟩;have R:=oH (Ts d7.out J);clear J;go_upto_region 17 with fail;have h4:=oH (WT HQ.2.2);obtain⟨aA,aC,fA,fC,o,ra,rf,a1,a6⟩:=R.out.Nb;have b4:w.heap.size≠pb:=fun e=>by have h1:=a7.out.box.lt;omega
  have j:=H0.2.2.1.kept R.out.kept ⟨b4,by rw[HL.2];exact H0.2.2.1.lt⟩;unfold wg at j;have c0:=o.cl 0;have t0:=j.cl 0;have f0:=j.free 0;have c1:=o.cl 1;have t1:=j.cl 1;have f1:=j.free 1;have c2:=o.cl 2;have t2:=j.cl 2;have f2:=j.free 2;have c3:=o.cl 3;have t3:=j.cl 3;have f3:=j.free 3;have c4:=o.cl 4;have t4:=j.cl 4;have f4:=j.free 4;have c5:=o.cl 5;have t5:=j.cl 5;have f5:=j.free 5;have c6:=o.cl 6;have t6:=j.cl 6;have f6:=j.free 6;have c7:=o.cl 7;have t7:=j.cl 7;have f7:=j.free 7;have c8:=o.cl 8;have t8:=j.cl 8;have f8:=j.free 8;have HE:=J3 j ra rf;clear o j ra rf a1 a6;go_wp2_with fail;exact UK pb p A C k' (m+1) k m x w W0 b1 aA fA aC fC B xb _ rfl rfl a7.out H0.2.1 HL.2 R.out HE.1 rfl H0.2.2.1.lt HE.2.1 HE.2.2 h4.1 h4.2
 rcases e8 with ⟨hw,b6,rfl,rfl⟩|⟨hw,b6,i6,i7,rfl,rfl⟩|⟨hw,b6,rfl,rfl⟩
 ·have b0:t=.func (.func 245) #[] #[]:=by rw[HT.out,hw];rfl
  subst b0;rw[hq];have HQ:=J2 hq hw;have e2:=TM (p:=p) (k:=k) (by rw[hw];decide);clear hr hw;go_wp2_with fail;refine(TC pb p A C k m 1 w5 H5.1.par.pat hp).mono ?_;rintro e w6 ⟨rfl,Y⟩;rw[hq];have H6:=oH (H5.1.all Y);clear Y hq;have I:=H6.out.par.box;have b3:=I.cl 3;have f3:=I.free 3;clear I;go_wp2_with fail;refine(To pb m 4096 w6 hm).mono ?_;rintro e w8 ⟨rfl,rfl⟩;go_upto_region 10 with fail;clear b3 f3;have h8:=H6.out.code;generalize w6.setCell _ _=W8 at*;have H8:=oH h8;clear h8;have I:=H8.out.par.box;have b2:=I.cl 2;have f2:=I.free 2;clear I;go_upto_region 12 with fail;have a8:wi pb p A C (k+1) (m+1) W8 (W8.setCell ⟨pb,2,none⟩ (.int .i64 ((k+1:Nat)))):=wi.of H8.out.par.pat kR (by omega);have H9:=oH (show St W0 B pb xb p A C (m+1) (k+1) {Va with Nj:=p.pos k} (W8.setCell ⟨pb,2,none⟩ (.int .i64 ((k:Int)+1))) by simpa using H8.out.moved a8);clear a8;generalize W8.setCell _ _=W9 at*;clear b2 f2;go_wp2_with fail;refine(WH B pb xb p A C (k+1) (m+1) {Va with Nj:=p.pos k} W9 H9.out.par H9.out.Nb hp b6).mono ?_;rintro e b1 ⟨rfl,J⟩;have R:=oH (Ts H9.out J);clear J;go_upto_region 13 with fail;obtain⟨aA,aC,fA,fC,o,ra,rf,a1,a6⟩:=R.out.Nb;have b4:w.heap.size≠pb:=fun e=>by have h1:=a7.out.box.lt;omega
  have j:=H0.2.2.1.kept R.out.kept ⟨b4,by rw[HL.2];exact H0.2.2.1.lt⟩;unfold wg at j;have c0:=o.cl 0;have t0:=j.cl 0;have f0:=j.free 0;have c1:=o.cl 1;have t1:=j.cl 1;have f1:=j.free 1;have c2:=o.cl 2;have t2:=j.cl 2;have f2:=j.free 2;have c3:=o.cl 3;have t3:=j.cl 3;have f3:=j.free 3;have c4:=o.cl 4;have t4:=j.cl 4;have f4:=j.free 4;have c5:=o.cl 5;have t5:=j.cl 5;have f5:=j.free 5;have c6:=o.cl 6;have t6:=j.cl 6;have f6:=j.free 6;have c7:=o.cl 7;have t7:=j.cl 7;have f7:=j.free 7;have c8:=o.cl 8;have t8:=j.cl 8;have f8:=j.free 8;have HE:=J3 j ra rf;clear o j ra rf a1 a6;go_wp2_with fail;exact UK pb p A C (k+1+1) (m+1) k m {Va with Nj:=p.pos k,kind:=11,ref:=p.txt (k+1)} w W0 b1 aA fA aC fC B xb _ rfl rfl a7.out H0.2.1 HL.2 R.out HE.1 rfl H0.2.2.1.lt HE.2.1 HE.2.2 (by show(0:Nat)≤1000;decide) (by show(0:Nat)≤1000;decide)
 ·have b0:t=.func (.func 246) #[] #[]:=by rw[HT.out,hw];rfl
  subst b0;rw[hq];have HQ:=J2 hq hw;have e2:=TM (p:=p) (k:=k) (by rw[hw];decide);clear hr hw;go_wp2_with fail;refine(TC pb p A C k m 1 w5 H5.1.par.pat hp).mono ?_;rintro e w6 ⟨rfl,Y⟩;rw[hq];have H6:=oH (H5.1.all Y);clear Y hq;have I:=H6.out.par.box;have b3:=I.cl 3;have f3:=I.free 3;clear I;go_wp2_with fail;refine(To pb m 4096 w6 hm).mono ?_;rintro e w8 ⟨rfl,rfl⟩;go_upto_region 10 with fail;clear b3 f3;have h8:=H6.out.code;generalize w6.setCell _ _=W8 at*;have H8:=oH h8;clear h8;have I:=H8.out.par.box;have b2:=I.cl 2;have f2:=I.free 2;clear I;go_upto_region 12 with fail;have a8:wi pb p A C (k+1) (m+1) W8 (W8.setCell ⟨pb,2,none⟩ (.int .i64 ((k+1:Nat)))):=wi.of H8.out.par.pat kR (by omega);have H9:=oH (show St W0 B pb xb p A C (m+1) (k+1) {Va with Nj:=p.pos k} (W8.setCell ⟨pb,2,none⟩ (.int .i64 ((k:Int)+1))) by simpa using H8.out.moved a8);clear a8;generalize W8.setCell _ _=W9 at*;clear b2 f2;go_wp2_with fail;refine(VC B pb xb p A C (k+1) (m+1) {Va with Nj:=p.pos k} W9 H9.out.par H9.out.Nb hp b6 i6 i7 (by show(0:Nat)≤1000;decide)).mono ?_;rintro e b1 ⟨rfl,J⟩;have R:=oH (Ts H9.out J);clear J;go_upto_region 13 with fail;obtain⟨aA,aC,fA,fC,o,ra,rf,a1,a6⟩:=R.out.Nb;have b4:w.heap.size≠pb:=fun e=>by have h1:=a7.out.box.lt;omega
  have j:=H0.2.2.1.kept R.out.kept ⟨b4,by rw[HL.2];exact H0.2.2.1.lt⟩;unfold wg at j;have c0:=o.cl 0;have t0:=j.cl 0;have f0:=j.free 0;have c1:=o.cl 1;have t1:=j.cl 1;have f1:=j.free 1;have c2:=o.cl 2;have t2:=j.cl 2;have f2:=j.free 2;have c3:=o.cl 3;have t3:=j.cl 3;have f3:=j.free 3;have c4:=o.cl 4;have t4:=j.cl 4;have f4:=j.free 4;have c5:=o.cl 5;have t5:=j.cl 5;have f5:=j.free 5;have c6:=o.cl 6;have t6:=j.cl 6;have f6:=j.free 6;have c7:=o.cl 7;have t7:=j.cl 7;have f7:=j.free 7;have c8:=o.cl 8;have t8:=j.cl 8;have f8:=j.free 8;have HE:=J3 j ra rf;clear o j ra rf a1 a6;go_wp2_with fail;exact UK pb p A C (k+1+1+1+1) (m+1) k m {Va with Nj:=p.pos k,kind:=12,args:=[p.txt (k+1)],ref:=p.txt (k+1+1),Ni:=p.txt (k+1+1+1)} w W0 b1 aA fA aC fC B xb _ rfl rfl a7.out H0.2.1 HL.2 R.out HE.1 rfl H0.2.2.1.lt HE.2.1 HE.2.2 (by show(1:Nat)≤1000;decide) (by show(0:Nat)≤1000;decide)
 have b0:t=.func (.func 247) #[] #[]:=by rw[HT.out,hw];rfl
 subst b0;rw[hq];have HQ:=J2 hq hw;have e2:=TM (p:=p) (k:=k) (by rw[hw];decide);clear hr hw;go_wp2_with fail;refine(TC pb p A C k m 1 w5 H5.1.par.pat hp).mono ?_;rintro e w6 ⟨rfl,Y⟩;rw[hq];have H6:=oH (H5.1.all Y);clear Y hq;have I:=H6.out.par.box;have b3:=I.cl 3;have f3:=I.free 3;clear I;go_wp2_with fail;refine(To pb m 4096 w6 hm).mono ?_;rintro e w8 ⟨rfl,rfl⟩;go_upto_region 10 with fail;clear b3 f3;have h8:=H6.out.code;generalize w6.setCell _ _=W8 at*;have H8:=oH h8;clear h8;have I:=H8.out.par.box;have b2:=I.cl 2;have f2:=I.free 2;clear I;go_upto_region 12 with fail;have a8:wi pb p A C (k+1) (m+1) W8 (W8.setCell ⟨pb,2,none⟩ (.int .i64 ((k+1:Nat)))):=wi.of H8.out.par.pat kR (by omega);have H9:=oH (show St W0 B pb xb p A C (m+1) (k+1) {Va with Nj:=p.pos k} (W8.setCell ⟨pb,2,none⟩ (.int .i64 ((k:Int)+1))) by simpa using H8.out.moved a8);clear a8;generalize W8.setCell _ _=W9 at*;clear b2 f2;go_wp2_with fail;refine(WX B pb xb p A C (k+1) (m+1) {Va with Nj:=p.pos k} W9 H9.out.par H9.out.Nb hp b6 (by show(0:Nat)≤1000;decide)).mono ?_;rintro e b1 ⟨rfl,J⟩;have R:=oH (Ts H9.out J);clear J;go_upto_region 13 with fail;obtain⟨aA,aC,fA,fC,o,ra,rf,a1,a6⟩:=R.out.Nb;have b4:w.heap.size≠pb:=fun e=>by have h1:=a7.out.box.lt;omega
 have j:=H0.2.2.1.kept R.out.kept ⟨b4,by rw[HL.2];exact H0.2.2.1.lt⟩;unfold wg at j;have c0:=o.cl 0;have t0:=j.cl 0;have f0:=j.free 0;have c1:=o.cl 1;have t1:=j.cl 1;have f1:=j.free 1;have c2:=o.cl 2;have t2:=j.cl 2;have f2:=j.free 2;have c3:=o.cl 3;have t3:=j.cl 3;have f3:=j.free 3;have c4:=o.cl 4;have t4:=j.cl 4;have f4:=j.free 4;have c5:=o.cl 5;have t5:=j.cl 5;have f5:=j.free 5;have c6:=o.cl 6;have t6:=j.cl 6;have f6:=j.free 6;have c7:=o.cl 7;have t7:=j.cl 7;have f7:=j.free 7;have c8:=o.cl 8;have t8:=j.cl 8;have f8:=j.free 8;have HE:=J3 j ra rf;clear o j ra rf a1 a6;go_wp2_with fail;exact UK pb p A C (k+1+1) (m+1) k m {Va with Nj:=p.pos k,kind:=13,args:=[p.txt (k+1)]} w W0 b1 aA fA aC fC B xb _ rfl rfl a7.out H0.2.1 HL.2 R.out HE.1 rfl H0.2.2.1.lt HE.2.1 HE.2.2 (by show(1:Nat)≤1000;decide) (by show(0:Nat)≤1000;decide)
end
section
theorem XN (f:FuncId)(w:World):(binOp .neq 198 (.func (.func f) #[] #[]) .nilFunc).run prog w=.ok (.bool true) w:=by kernel_rfl
theorem XM (f:FuncId)(w:World):(binOp .eql 198 (.func (.func f) #[] #[]) .nilFunc).run prog w=.ok (.bool false) w:=by kernel_rfl
attribute [local go_sem] XN XM
theorem ZF {S:Nat→Prop}{w:World}{A:Option Addr}{n c:Nat}{s:ByteArray}{l:List ByteArray}(h:gB S w (.slice A (n+1) c) (s::l))(J:l.length=n):∃b o,A=some ⟨b,o,none⟩∧n+1≤c∧c≤maxLen∧w.cell? ⟨b,o,none⟩=some (.string s)∧S b∧gB S w (.slice (some ⟨b,o+1,none⟩) n (c-1)) l:=by obtain⟨b,o,e,R,Y⟩:=Bs h (i:=0) rfl;obtain⟨a,cap,hv,h1,h2,h3,h4⟩:=h;injection hv with e1 e2 e3;subst e1;subst e3;subst e;simp only[kI] at h1 h3;refine⟨b,o,rfl,by omega,h2,Y,R,some ⟨b,o+1,none⟩,c-1,by rw[J],by omega,by omega,by omega,fun i x hx=>?_⟩;obtain⟨b',o',c',e',j,C,I⟩:=h4 (i+1) x (by simpa using hx);cases e';exact⟨b,o+1,c',rfl,j,by rw[Nat.add_right_comm,Nat.add_assoc];exact C,I⟩
def WU (j s:ByteArray):Prop:=Ab s=true∧(s.size=0∨Ai s 0≠45)∧s.size≤65536∧(if j.toList==[100,101,112,116,104] then(Os s).isSome=true else aB s=true)
def XD (W:World)(t:Tmp)(v:Value)(wn:World):Prop:=if t=10 then∃b,v=.map (some b)∧Tn wn b Ys else∃g,v=.pointer (some ⟨g,0,none⟩)∧W.heap.size≤g∧al wn g 200 #[.nilFunc,.int .i64 0]
theorem XD.keep {W wn C:World}(I:aa All wn C)(t:Tmp){v:Value}(h:XD W t v wn):XD W t v C:=by
 unfold XD at h⊢;split
 ·rename_i e;rw[ap e] at h
  obtain⟨b,j,o⟩:=h;exact⟨b,j,o.kept I⟩
 rename_i e;rw[ae e] at h;obtain⟨g,j,o,J⟩:=h;exact⟨g,j,o,J.kept I trivial⟩
theorem ZG (w:World):(zeroValue 200).run prog w=.ok (.agg #[.nilFunc,.int .i64 0]) w:=by kernel_rfl
theorem YQ (K n:Nat)(eg:∀args w,(callFunc K args).run prog w=.ok (.enter K args) w)(rd:Nat)(w0:ByteArray)(ws:List ByteArray)(S:Nat→Prop)(A:Option Addr)(c:Nat)(w:World)(hv:gB S w (.slice A (n+1) c) (w0::ws))(b0:TH Ys w0=some (.agg #[.func (.func K) #[] #[],.int .i64 n]))(b1:ws.length=n)(e5:1≤n)(hn:n<100)(e6:w0.size≤65536)(b2:∀s∈ws,WU w0 s)(R:World→Prop)
 (b3:∀wn A' c',aa All w wn→gB S wn (.slice A' n c') ws→Calls prog K #[.pointer (some ⟨rd,0,none⟩),.slice A' n c'] wn fun e w'=>e=.returned (.int .i64 0)∧R w'):
 Calls prog 71 #[.pointer (some ⟨rd,0,none⟩),.slice A (n+1) c] w fun e w'=>e=.returned (.int .i64 0)∧R w':=by
 obtain⟨b,o,rfl,h0,h1,J,c8,b4⟩:=ZF hv b1;have HV:=oH (fun wn (j:aa All w wn)=>j.cell (p:=⟨b,o,none⟩) trivial J);have c9:=oH b4;have d7:=oH b3;have d8:=oH b2;have b5:=J2 b0 (show w0.size≤maxLen by unfold maxLen;omega);have d9:=oH eg;have h2:¬c=1:=by omega
 clear hv J b4 b3 b2 b0 c8 eg;go_enter func71,ntmps71;go_upto_region 1 with fail;refine R1 6 w [10,5] (XD w) (fun i=>if i=0 then some (fun v=>∃b,v=.map (some b)) else if i=5 then some (fun v=>∃g,v=.pointer (some ⟨g,0,none⟩)) else none) ?_;refine O6 (fun wn j hp=>?_) (fun wn j hp=>?_) ?_
 ·go_simp
  refine(Zb wn).mono ?_;rintro e wq ⟨b9,rfl,hm,Y⟩;exact .inl ⟨rfl,_,rfl,⟨_,rfl⟩,j.trans Y,fun t _ v h=>h.keep Y t,fun d hd _=>by cases hd;exact⟨b9,rfl,hm⟩⟩
 ·obtain⟨e,wq,_,⟨b9,rfl,hm,Y⟩,_⟩:=(Zb wn) []
  exact⟨_,wq,⟨_,rfl⟩,j.trans Y,fun t _ v h=>h.keep Y t,fun d hd _=>by cases hd;exact⟨b9,rfl,hm⟩⟩
 rintro v ⟨b9,rfl⟩;simp only[PS];iterate 2 refine O0 ?_
 refine O3 (fun wn j hp=>by(have q0:=HV.out wn j;go_simp;with_reducible rfl)) ?_;refine xy (v:=(.agg #[.func (.func K) #[] #[],.int .i64 n])) (by rfl) (by rfl) (by rfl) (by intro d hd;cases hd;decide) (fun wn j hp=>by(obtain⟨b8,e8,hm⟩:=hp 10 (by decide) (by decide) _ rfl;cases e8;have hl:=ZD w0 b5.2 hm;rw[b5.1] at hl;simp only[Option.getD_some] at hl;go_simp<;>with_reducible rfl)) ?_;simp only[PS];refine O6 (fun wn j hp=>?_) (fun wn j hp=>?_) ?_
 ·have hz:=ZG wn
  go_simp;exact⟨rfl,⟨_,rfl⟩,j.alloc _,fun t _ v h=>h.keep (kR.alloc _) t,fun d hd _=>by cases hd;exact⟨_,rfl,j.size,al.new _ _ _⟩⟩
 ·exact⟨.pointer (some ⟨wn.heap.size,0,none⟩),wn.alloc (.cells #[.nilFunc,.int .i64 0] 200),⟨_,rfl⟩,j.alloc _,fun t _ v h=>h.keep (kR.alloc _) t,fun d hd _=>by cases hd;exact⟨_,rfl,j.size,al.new _ _ _⟩⟩
 rintro v ⟨g,rfl⟩;simp only[PS];refine aG fun wt a6 hF=>?_;obtain⟨g9,e9,b6,I⟩:=hF 5 (by decide) _ rfl;cases e9;have HG:=J3 a6 b6 I;have c0:=I.cl 0;have c1:=I.cl 1;have f0:=I.free 0;have f1:=I.free 1;clear a6 hF b6 I;simp only[dK];go_upto_region 2 with fail;have a7:=(HG.2.2.set 0 (.func (.func K) #[] #[])).set 1 (.int .i64 n);simp only[ga] at a7;have k2:=(HG.1.setCell (p:=⟨g,0,none⟩) (.inr HG.2.1) (.func (.func K) #[] #[])).setCell (p:=⟨g,1,none⟩) (.inr HG.2.1) (.int .i64 n);clear c0 c1 f0 f1;generalize World.setCell _ ⟨g,1,none⟩ _=W2 at*;obtain⟨d0,d1⟩:=a7.c2;have H2:=J2 k2 a7;have c2:=oH (ax.keep k2.all c9.out);clear k2 a7;go_upto_region 4 with fail;clear d0 d1;go_upto_region 5 with fail;go_loopg [29] n (fun g e0 wr=>∃i:Nat,g=n-i∧i≤n∧e0=.int .i64 i∧aa All W2 wr);·exact⟨0,by omega,Nat.zero_le _,rfl,kR⟩
 obtain⟨i,h3,hi,rfl,j⟩:=hrel;obtain⟨wo,e1⟩:=eQ wr;subst e1;have HK:=oH j;clear j;by_cases c3:i<n;·(
 have hd:decide ((i:Int)<(n:Int))=true:=by simpa using c3
 obtain⟨s,hs⟩:∃s,ws[i]? =some s:=⟨_,lG (by omega)⟩;obtain⟨b7,o7,e7,_,e2⟩:=Bs (ax.keep HK.out.all c2.out) hs;cases e7;obtain⟨a1,a2,a3,a4⟩:=d8.out s (mG hs);have HA:=oH a4;clear a4 hs;go_wp2_with fail;refine(VU s wo a1 a2 a3).mono ?_;rintro e w3 ⟨c4,v,rfl,_⟩;have a8:=oH (HK.out.trans c4);have h4:=HV.out w3 (H2.1.trans a8.out);clear c4 e2 a1 a2 a3;cases c5:(w0.toList==[100,101,112,116,104])
 case true=>(
 have C:=HA.out;rw[c5,ap rfl] at C;rw[C];clear C;go_wp2;go_roundg (n-(i+1));·exact⟨i+1,rfl,by omega,by go_num,a8.out⟩
 omega)
 have C:=HA.out;rw[c5,ae (by decide)] at C;have HN:=oH C;clear C;go_wp2_with fail;refine(vK s w3).mono ?_;rintro e w4 ⟨rfl,c6⟩;rw[HN.out];have e3:=oH (a8.out.trans c6);clear c6;go_wp2;go_roundg (n-(i+1));·exact⟨i+1,rfl,by omega,by go_num,e3.out⟩
 omega)
 have hd:decide ((i:Int)<(n:Int))=false:=by simpa using c3
 go_upto_region 11 with fail;refine R0 5 wo (fun _=>none) ?_;iterate 4 refine O3 (fun wn j hp=>by(have q0:=(H2.2.kept (HK.out.trans j) trivial).cell 0;simp only[gc] at q0;go_simp;with_reducible rfl)) ?_
 refine O3 (fun wn j hp=>by(have q0:=(H2.2.kept (HK.out.trans j) trivial).cell 0;simp only[gc] at q0;go_simp;rw[ap (by omega)])) ?_;refine aG fun wt a6 hF=>?_;have HT:=oH a6;clear a6 hF;simp only[List.drop_succ_cons];have h5:=d9.out;have c7:=oH (d7.out wt (some ⟨b,o+1,none⟩) (c-1) (H2.1.trans (HK.out.trans HT.out)) (ax.keep (HK.out.trans HT.out).all c2.out));go_wp2_with fail;refine c7.out.mono ?_;rintro e w9 ⟨rfl,hr⟩;have e4:=oH hr;clear hr;go_wp2_with fail;go_ret;exact⟨rfl,e4.out⟩
end
section
def Zo (c:Nat):Bool:=c==32||c==9
def YT:List ByteArray:=Lib.splitB ⟨#[10]⟩ 0 (Lib.countB Uy ⟨#[10]⟩) Uy
def Zc:ByteArray:=bs [108,111,119]
def YY:ByteArray:=bs [104,105,103,104]
def Yi:Nat→ByteArray×List ByteArray
 |0=>(bs [108,101,118,101,108],[Zc])
 |1=>(bs [108,101,118,101,108],[YY])
 |2=>(bs [102,108,111,119],[Zc,YY])
 |3=>(bs [105,110,112,117,116],[bs [107,101,121],YY])
 |4=>(bs [111,117,116,112,117,116],[bs [110,101,116],Zc])
 |_=>(bs [100,101,112,116,104],[bs [56]])
def ZI:Nat→aH
 |0=>⟨[],[],[],[],0⟩
 |1=>⟨[Zc],[],[],[],0⟩
 |2=>⟨[Zc,YY],[],[],[],0⟩
 |3=>⟨[Zc,YY],[],[],[],0⟩
 |4=>⟨[Zc,YY],[],[(bs [107,101,121],1)],[],0⟩
 |5=>⟨[Zc,YY],[],[(bs [107,101,121],1)],[(bs [110,101,116],0)],0⟩
 |_=>⟨[Zc,YY],[],[(bs [107,101,121],1)],[(bs [110,101,116],0)],8⟩
def ZP:Nat→List (Nat×Nat)
 |0=>[]|1=>[]|2=>[]|_=>[(0,1)]
theorem VR:Uy.size=72∧Ab Uy=true∧Lib.countB Uy ⟨#[10]⟩=5:=⟨by kernel_rfl,by kernel_rfl,by kernel_rfl⟩
theorem Zp (k:Nat)(j:k<6):YT[k]? =some (YT.getD k gR)∧(YT.getD k gR).size≤100∧Lib.goFieldsP Zo (YT.getD k gR)=(Yi k).1::(Yi k).2∧0<(Yi k).1.size∧Ai (Yi k).1 0≠35∧(Yi k).2.length≤2:=by rcases (by omega:k=0∨k=1∨k=2∨k=3∨k=4∨k=5) with rfl|rfl|rfl|rfl|rfl|rfl;all_goals exact⟨by kernel_rfl,of_decide_eq_true (by kernel_rfl),by kernel_rfl,of_decide_eq_true (by kernel_rfl),of_decide_eq_true (by kernel_rfl),of_decide_eq_true (by kernel_rfl)⟩
instance (w0 s:ByteArray):Decidable (WU w0 s):=by unfold WU;infer_instance
theorem Yz:∀k,k<6→∀s∈(Yi k).2,WU (Yi k).1 s:=by intro k j;rcases (by omega:k=0∨k=1∨k=2∨k=3∨k=4∨k=5) with rfl|rfl|rfl|rfl|rfl|rfl;all_goals exact of_decide_eq_true (by kernel_rfl)
def Ze (B rd k:Nat)(w j:World):Prop:=aa (fun b=>b<B∧b≠rd) w j∧Yx B rd j (ZI (k+1)) (ZP (k+1))
section
variable {B rd:Nat} {wo w wn:World} {S:Nat→Prop}
theorem Yx.at_ {p:aH}{fl:List (Nat×Nat)}(h:Yx B rd wo p fl)(j:aa All wo w)(o:aa All w wn):Yx B rd wn p fl:=h.keep (j.trans o).all
theorem YR {p:aH}{fl:List (Nat×Nat)}{k:Nat}{e:Ending}{j:World}(o:aa All w wn)(h:YS B rd wn p fl e j)(C:p=ZI (k+1))(I:fl=ZP (k+1)):e=.returned (.int .i64 0)∧Ze B rd k w j:=by subst C;subst I;exact⟨h.1,o.all.trans h.2.1,h.2.2⟩
end
theorem ZB (B rd k:Nat)(hk:k<6)(wo w:World)(A:Option Addr)(n c:Nat)(h:Yx B rd wo (ZI k) (ZP k))(o:aa All wo w)(Y:gB (fun b=>wo.heap.size≤b) w (.slice A n c) ((Yi k).1::(Yi k).2)):
 Calls prog 71 #[.pointer (some ⟨rd,0,none⟩),.slice A n c] w fun e w'=>e=.returned (.int .i64 0)∧Ze B rd k w w':=by
 have C:=Yz k hk;have a1:n=(Yi k).2.length+1:=by obtain⟨_,_,e,_⟩:=Y;injection e
 subst a1;rcases (by omega:k=0∨k=1∨k=2∨k=3∨k=4∨k=5) with rfl|rfl|rfl|rfl|rfl|rfl;·exact YQ 177 1 (enters_of func177 (by kernel_rfl) rfl) rd _ _ _ A c w Y (by kernel_rfl) rfl (by decide) (by decide) (of_decide_eq_true (by kernel_rfl)) C _ fun wn I J j R=>(Za B rd _ wn (h.at_ o j) rfl rfl _ _ I J R (fun b hb=>⟨wo,h,hb,(o.trans j).all⟩) (of_decide_eq_true (by kernel_rfl)) (by decide)).mono fun e w' q=>YR j q rfl rfl
 ·exact YQ 177 1 (enters_of func177 (by kernel_rfl) rfl) rd _ _ _ A c w Y (by kernel_rfl) rfl (by decide) (by decide) (of_decide_eq_true (by kernel_rfl)) C _ fun wn I J j R=>(Za B rd _ wn (h.at_ o j) rfl rfl _ _ I J R (fun b hb=>⟨wo,h,hb,(o.trans j).all⟩) (of_decide_eq_true (by kernel_rfl)) (by decide)).mono fun e w' q=>YR j q rfl rfl
 ·exact YQ 178 2 (enters_of func178 (by kernel_rfl) rfl) rd _ _ _ A c w Y (by kernel_rfl) rfl (by decide) (by decide) (of_decide_eq_true (by kernel_rfl)) C _ fun wn I J j R=>(ZE B rd _ wn (h.at_ o j) _ _ _ I J R 0 1 (by kernel_rfl) (by kernel_rfl)).mono fun e w' q=>YR j q rfl rfl
 ·exact YQ 179 2 (enters_of func179 (by kernel_rfl) rfl) rd _ _ _ A c w Y (by kernel_rfl) rfl (by decide) (by decide) (of_decide_eq_true (by kernel_rfl)) C _ fun wn I J j R=>(Zu B rd _ _ wn (h.at_ o j) rfl _ _ _ I J R 1 (by kernel_rfl) (by decide) (of_decide_eq_true (by kernel_rfl))).mono fun e w' q=>YR j q rfl rfl
 ·exact YQ 180 2 (enters_of func180 (by kernel_rfl) rfl) rd _ _ _ A c w Y (by kernel_rfl) rfl (by decide) (by decide) (of_decide_eq_true (by kernel_rfl)) C _ fun wn I J j R=>(Zm B rd _ _ wn (h.at_ o j) rfl _ _ _ I J R 0 (by kernel_rfl) (by decide) (of_decide_eq_true (by kernel_rfl))).mono fun e w' q=>YR j q rfl rfl
 exact YQ 181 1 (enters_of func181 (by kernel_rfl) rfl) rd _ _ _ A c w Y (by kernel_rfl) rfl (by decide) (by decide) (of_decide_eq_true (by kernel_rfl)) C _ fun wn I J j R=>(Zt B rd _ _ wn (h.at_ o j) rfl _ _ I J 8 R (of_decide_eq_true (by kernel_rfl)) (by kernel_rfl) (C _ (cx.2 rfl)).2.1 (by kernel_rfl) (by decide) (by decide)).mono fun e w' q=>YR j q rfl rfl
end
section
def Up:Value→List Value
 |.agg xs=>xs.toList
 |_=>[]
section
variable {α:Type} {n:Nat} {e:TypeId} {El:cO α} {B pb:Nat} {W w:World} {v:Value} {l:List α} {x:α}
def Tq (El:cO α)(W:World)(n:Nat)(x:α)(y:Value)(w:World):Prop:=∃cs:List Value,y=.agg cs.toArray∧cs.length=n∧(∀u∈cs,u.oneCell'=true)∧El (fun b=>W.heap.size≤b∧b<w.heap.size) w cs x
theorem Tq.cells {y:Value}(h:Tq El W n x y w):(Up y).length=n∧∀u∈Up y,u.oneCell'=true:=by obtain⟨cs,rfl,j,o,_⟩:=h;exact⟨by simpa [Up] using j,by simpa [Up] using o⟩
theorem Uf (g:cO.Good El){PS:Bool→World→Prop}{xs:List Value}(R:pb<W.heap.size)(r:W.ownsRow B e n v l.length xs)(o:v.ownBlock≠some pb)(C:∀b w I,aa (fun i=>v.ownBlock≠some i) w I→PS b w→PS b I):
 Vb W (fun i=>i≠pb) v PS (Tq El W n x) where
 big:=fun i hi e=>by omega
 own:=fun b j=>⟨fun e=>o (e▸j),(aD r j).2⟩
 ps:=C
 c:=fun y w I J ⟨cs,Y,h2,h3,h4⟩=>⟨cs,Y,h2,h3,g.wide (fun b j=>⟨j.1,by have:=J.size;omega⟩) (g.keep (J.mono fun b j=>⟨fun e=>by have:=(aD r e).2;have:=j.1;omega,fun e=>by have:=j.1;omega⟩) h4)⟩
theorem Us (g:cO.Good El){wt Y:World}{u y:Value}{o:List (List Value)}{P:Nat→Prop}(a6:pb<B)(a7:B≤W.heap.size)(r:W.ownsRow B e n v l.length o.flatten)(h2:o.length=l.length)(h3:∀cs∈o,cs.length=n)
 (h4:∀b,P b→B≤b∧b<W.heap.size∧v.ownBlock≠some b) (h5:∀(i:Nat) x,l[i]? =some x→∃cs,o[i]? =some cs∧El P W cs x)
 (hk:aa (fun i=>v.ownBlock≠some i∧i≠pb) W wt) (q1:wt.ownsRow B e n u (l.length+1) (o.flatten++Up y)) (q2:Tq El W n x y Y) (q3:W.heap.size≤Y.heap.size) (q4:aa (fun b=>v.ownBlock≠some b∧b≠pb) Y wt) (I:u.ownBlock=v.ownBlock∨∀g,u.ownBlock=some g→Y.heap.size≤g):
 dR n e El B wt u (l++[x]):=by
 obtain⟨cs,rfl,c1,c2,c3⟩:=q2;have hz:=q4.size;refine⟨o++[cs],fun b=>P b∨(W.heap.size≤b∧b<Y.heap.size),?_,by simp[h2],?_,fun b j=>?_,fun i z C=>?_⟩
 ·rw[List.flatten_append,iQ]
  simpa [Up] using q1
 ·intro c R
  rcases eD.1 R with R|R;·exact h3 c R
  rw[cx.1 R];exact c1
 ·rcases j with j|j
  ·have h:=h4 b j;refine⟨h.1,by have:=hk.size;omega,?_⟩;rcases I with I|I;·rw[I];exact h.2.2
   intro J;have:=I b J;omega
  refine⟨by omega,by omega,?_⟩;rcases I with I|I;·rw[I];intro J;have:=(aD r J).2;omega
  intro J;have:=I b J;omega
 by_cases hi:i<l.length
 ·rw[ma hi] at C
  obtain⟨c,R,hE⟩:=h5 i z C;refine⟨c,by rw[ma (by omega)];exact R,g.wide (fun b j=>.inl j) (g.keep (hk.mono fun b j=>⟨(h4 b j).2.2,fun J=>by have:=(h4 b j).1;omega⟩) hE)⟩
 rw[kH (by omega)] at C;have a1:i-l.length=0:=by have:=(lS.1 C).1;simp at this;omega
 rw[a1] at C;cases C;refine⟨cs,by rw[kH (by omega),h2,a1];rfl,g.wide (fun b j=>.inr j) (g.keep (q4.mono fun b j=>⟨fun J=>by have:=(aD r J).2;have:=j.1;omega,fun J=>by have:=j.1;omega⟩) c3)⟩
end
end
theorem Hn {p:cr}(j:p.Ok)(k:Nat):(p.txt k).size≤140737488355328:=by have:=(TJ j k).2;omega
theorem Au:gR.size≤140737488355328:=by show 0≤140737488355328;omega
theorem We {p:cr}(j:p.Ok)(k:Nat):p.pos k≤65536:=by
 unfold cr.pos;have o:=j.size;cases C:p.l[k]? with
 |none=>exact o
 |some t=>have h:=j.tok t (mG C);show t.beg≤_;omega
theorem Vh {p:cr}(R:p.Ok):∀ {f n k:Nat} {I J o C:List ByteArray} {k':Nat},(∀s∈I,s.size≤140737488355328)→(∀s∈J,s.size≤140737488355328)→UH p f n k I J=some (o,C,k')→(∀s∈o,s.size≤140737488355328)∧(∀s∈C,s.size≤140737488355328)∧k<k'
 |0,_,_,_,_,_,_,_,_,_,h=>by cases h
 |f+1,n,k,I,J,o,C,k',h1,h2,h=>by(
 obtain⟨_,_,_,_,Y⟩:=Uv h;have e1:∀s∈I++[p.txt k],s.size≤140737488355328:=fun s j=>by
  rcases eD.1 j with j|j;·exact h1 s j
  rw[cx.1 j];exact Hn R k
 have e2:∀s∈J++[p.txt (k+1+1)],s.size≤140737488355328:=fun s j=>by
  rcases eD.1 j with j|j;·exact h2 s j
  rw[cx.1 j];exact Hn R _
 split at Y
 ·have h6:=Vh R e1 e2 Y
  exact⟨h6.1,h6.2.1,by omega⟩
 injection Y with f1 f2;injection f2 with f2 f3;subst f1;subst f2;subst f3;exact⟨e1,e2,by omega⟩)
theorem Xl {p:cr}(j:p.Ok){k k':Nat}{x:cX}(h:TV p k=some (x,k')):uB x∧k<k':=by
 have R:=We j k;have o:aV (p.pos k):=by unfold aV;omega
 have C:aV 0:=by unfold aV;omega
 have nil:∀s∈([]:List ByteArray),s.size≤140737488355328:=fun s J=>by cases J
 have one:∀i,∀s∈[p.txt i],s.size≤140737488355328:=fun i s J=>by rw[cx.1 J];exact Hn j i
 rcases TW h with ⟨_,_,hv⟩|⟨_,⟨_,_,rfl,rfl⟩|⟨_,_,_,_,rfl,rfl⟩|⟨_,_,rfl,rfl⟩⟩;·(
 rcases TZ hv with ⟨_,n,_,I,rfl,rfl⟩|⟨_,_,fr,ar,k2,hq,_,rfl,rfl⟩
 ·have a1:n<9223372036854775808:=by(
 unfold Os at I;split at I;·cases I
 exact of_decide_eq_true (Option.filter_eq_some_iff.1 I).2)
  exact⟨⟨by show(1:Nat)<256;decide,by show(0:Nat)<256;decide,by unfold aV;show(-9223372036854775808:Int)≤(n:Int)∧(n:Int)≤9223372036854775807;omega,o,Hn j k,Au,Au,nil,nil⟩,by omega⟩
 have Y:=Vh j nil nil hq;exact⟨⟨by show(3:Nat)<256;decide,by show(0:Nat)<256;decide,C,o,Hn j k,Au,Au,Y.2.1,Y.1⟩,by omega⟩)
 ·exact⟨⟨by show(11:Nat)<256;decide,by show(0:Nat)<256;decide,C,o,Au,Hn j _,Au,nil,nil⟩,by omega⟩
 ·exact⟨⟨by show(12:Nat)<256;decide,by show(0:Nat)<256;decide,C,o,Au,Hn j _,Hn j _,one _,nil⟩,by omega⟩
 exact⟨⟨by show(13:Nat)<256;decide,by show(0:Nat)<256;decide,C,o,Au,Au,Au,one _,nil⟩,by omega⟩
end Go.Proofs.YtccbbkopmlnkpaaGreatDoor
