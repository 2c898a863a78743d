/- Part 32 of the proof (its last part says what is proved). No condition. -/
import Derived.Test.YtgdlhckhpolnnaaGreatDoorK30
namespace Go.Proofs.YtgdlhckhpolnnaaGreatDoor
set_option maxRecDepth 100000
set_option maxHeartbeats 8000000
open Go.RowKit Go.Proofs.Tryz
section
theorem qce {p:cr}{k k':Nat}{x:EL}(h:qbY p k=some (x,k')):
 p.is (k+1) 1=true∧p.is (k+1+1) 3=true∧∃n,ia (p.txt (k+1+1))=some n∧1≤n∧n≤256∧p.is (k+1+1+1) 1=true∧x=⟨p.txt (k+1),n,p.txt (k+1+1+1),p.pos k⟩∧k'=k+1+1+1+1:=by
 unfold qbY Ty at h;by_cases h1:p.is (k+1) 1=true
 ·by_cases j:p.is (k+1+1) 3=true
  ·(
 simp only[h1,j,if_true,Option.bind_eq_bind,Option.bind_some] at h;cases C:ia (p.txt (k+1+1)) with
 |none=>rw[C] at h;cases h
 |some n=>
  rw[C] at h;simp only[Option.bind_some] at h;split at h;·cases h
  rename_i I;by_cases o:p.is (k+1+1+1) 1=true;·simp only[o,if_true,Option.bind_some] at h;cases h;exact⟨h1,j,n,rfl,by omega,by omega,o,rfl,rfl⟩
  simp[o] at h)
  simp[h1,j] at h
 simp[h1] at h
structure RSt (w:World)(rb cb pb:Nat)(p:cr)(A:Option Addr)(C k m:Nat)(cs:Array Value)(W:World):Prop where
 kept:aa (Wm pb w.heap.size) w W
 par:PB W w.heap.size pb p A C k m
 res:al W rb 106 #[.string ⟨#[]⟩,.int .i64 0,.string ⟨#[]⟩,.int .i64 0]
 box:al W cb 106 cs
 low:w.heap.size≤rb∧rb<cb
 lpb:pb<w.heap.size
section
variable {w W W':World} {rb cb pb:Nat} {p:cr} {A:Option Addr} {C k k' m m':Nat} {cs:Array Value}
theorem RSt.moved (h:RSt w rb cb pb p A C k m cs W)(hm:wi pb p A C k' m' W W'):RSt w rb cb pb p A C k' m' cs W':=by have h1:=h.low;have j:=h.lpb;exact⟨h.kept.trans (hm.1.mono fun _ o=>o.1),h.par.moved hm,h.res.kept hm.1 (by show rb≠pb;omega),h.box.kept hm.1 (by show cb≠pb;omega),h1,j⟩
theorem RSt.all (h:RSt w rb cb pb p A C k m cs W)(j:aa All W W'):RSt w rb cb pb p A C k m cs W':=
 ⟨h.kept.trans j.all,h.par.kept j fun _ _=>trivial,h.res.kept j trivial,h.box.kept j trivial,h.low,h.lpb⟩
theorem RSt.set (h:RSt w rb cb pb p A C k m cs W)(j:Nat)(v:Value):RSt w rb cb pb p A C k m (cs.setIfInBounds j v) (W.setCell ⟨cb,j,none⟩ v):=by have h1:=h.low;have kc:aa (fun b=>b≠cb) W (W.setCell ⟨cb,j,none⟩ v):=kR.setCell (.inl fun h=>h rfl) _;exact⟨h.kept.trans (kc.mono fun b o=>by have:=o.2;show b≠cb;omega),h.par.kept kc fun b o=>by show b≠cb;omega,h.res.kept kc (by show rb≠cb;omega),h.box.set j v,h1,h.lpb⟩
end
theorem qha (pb rb cb:Nat)(p:cr)(A:Option Addr)(C k m:Nat)(s t:ByteArray)(n q:Int)(w W:World)(a:Act)(cs:Array Value)(R:a.tmps[2]? =some (.pointer (some ⟨rb,0,none⟩)))(Y:a.defers=[])(j:RSt w rb cb pb p A C k m cs W):
 bodyPost prog Tryz.f42 (fun e w'=>e=.returned (.agg #[.string s,.int .i64 n,.string t,.int .i64 q])∧wi pb p A C k m w w') .ret a ((((W.setCell ⟨rb,0,none⟩ (.string s)).setCell ⟨rb,1,none⟩ (.int .i64 n)).setCell ⟨rb,2,none⟩ (.string t)).setCell ⟨rb,3,none⟩ (.int .i64 q)):=by
 have o:=(((j.res.set 0 (.string s)).set 1 (.int .i64 n)).set 2 (.string t)).set 3 (.int .i64 q);have kF:=((((aa.refl (fun b=>b≠rb) W).setCell (p:=⟨rb,0,none⟩) (.inl fun h=>h rfl) (.string s)).setCell (p:=⟨rb,1,none⟩) (.inl fun h=>h rfl) (.int .i64 n)).setCell (p:=⟨rb,2,none⟩) (.inl fun h=>h rfl) (.string t)).setCell (p:=⟨rb,3,none⟩) (.inl fun h=>h rfl) (.int .i64 q);simp only[ga] at o;generalize World.setCell _ ⟨rb,3,none⟩ _=WF at*;have I:=j.low;have a1:=j.lpb;have kw:aa (fun b=>b≠pb) w WF:=by have h1:aa (fun b=>b≠pb∧b<w.heap.size) w WF:=j.kept.trans (kF.mono fun b J=>by have:=J.2;show b≠rb;omega);exact⟨h1.os,h1.output,h1.size,fun i hi hS=>h1.block i hi ⟨hS,hi⟩⟩
 obtain⟨c0,c1,c2,c3⟩:=o.c4;exact bodyPost_ret (v:=.agg #[.string s,.int .i64 n,.string t,.int .i64 q]) (by simp[results,Tryz.results42,go_sem,R,c0,c1,c2,c3]) Y ⟨rfl,kw,(j.par.kept kF fun b J=>by show b≠rb;omega).pat⟩
theorem qeK (pb:Nat)(p:cr)(A:Option Addr)(C k m k':Nat)(x:EL)(w:World)(h:Uo w pb p A C k m)(I:p.Ok)(hr:qbY p k=some (x,k')):
 Calls prog 42 #[.pointer (some ⟨pb,0,none⟩)] w fun e w'=>e=.returned (.agg #[.string x.name,.int .i64 x.size,.string x.level,.int .i64 x.Nj])∧wi pb p A C k' m w w':=by
 obtain⟨q1,q2,n,q3,q4,q5,q6,rfl,rfl⟩:=qce hr;obtain⟨W0,J⟩:=eQ (w.alloc (.cells #[.string ⟨#[]⟩,.int .i64 0,.string ⟨#[]⟩,.int .i64 0] 106));have Y:=yf J;have bR:=yv J;have H0:=J5 J Y bR (h.keep Y) h;have HQ:=J4 q1 q2 q3 q6;have d7:=Xm q1;have hlen:=I.len;clear h hr J Y bR q1 q2 q3 q6;go_enter func42,ntmps42;go_upto_region 1 with fail;rw[←H0.1];go_wp2_with fail;refine(Vv pb p A C k m W0 H0.2.2.2.1 I).mono ?_;rintro e w1 ⟨rfl,R⟩;go_upto_region 2 with fail;obtain⟨rb,a1⟩:=eQ w.heap.size;obtain⟨cb,a6⟩:=eQ w1.heap.size;have b5:RSt w rb cb pb p A C k m #[.string ⟨#[]⟩,.int .i64 0,.string ⟨#[]⟩,.int .i64 (p.pos k)] (w1.alloc (.cells #[.string ⟨#[]⟩,.int .i64 0,.string ⟨#[]⟩,.int .i64 (p.pos k)] 106)):=by have d8:=H0.2.2.1.lt;have c9:=R.size;have k3:aa All w1 (w1.alloc (.cells #[.string ⟨#[]⟩,.int .i64 0,.string ⟨#[]⟩,.int .i64 (p.pos k)] 106)):=kR.alloc _;have kz:=(H0.2.1.trans R).trans k3;exact⟨kz.all,H0.2.2.2.2.pb.kept kz fun _ _=>trivial,by rw[a1];exact H0.2.2.1.kept (R.trans k3) trivial,by rw[a6];exact al.new _ _ _,⟨by omega,by omega⟩,H0.2.2.2.2.box.lt⟩
 rw[←a6];generalize w1.alloc _=W3 at*;have H3:=oH b5;have HR:=oH a1;clear b5 R a1 a6;rw[←HR.out];have bq:=H3.out.par.box.cl 2;have fq:=H3.out.par.box.free 2;have o:wi pb p A C (k+1) m W3 (W3.setCell ⟨pb,2,none⟩ (.int .i64 ((k+1:Nat)))):=wi.of H3.out.par.pat kR (by omega);have H4:=oH (H3.out.moved o);clear o;go_upto_region 3 with fail;rw[show((k:Int)+1)=((k+1:Nat):Int) by go_num];generalize W3.setCell _ _=W4 at*;clear bq fq;go_wp2_with fail;refine(xi pb p A C (k+1) m W4 H4.out.par.pat I HQ.1).mono ?_;rintro e W5 ⟨rfl,o⟩;have H5:=oH (H4.out.moved o);clear o;have b0:=H5.out.box.cl 0;have f0:=H5.out.box.free 0;go_upto_region 4 with fail;have h6:=H5.out.set 0 (.string (p.txt (k+1)));simp only[ga] at h6;have H6:=oH h6;clear b0 f0 h6;generalize W5.setCell _ _=W6 at*;go_wp2_with fail;refine(TC pb p A C (k+1+1) m 3 W6 H6.out.par.pat I).mono ?_;rintro e W7 ⟨rfl,b6⟩;rw[HQ.2.1];have H7:=oH (H6.out.all b6);clear b6;go_wp2_with fail;refine(xt pb p A C (k+1+1) m 0 W7 H7.out.par.pat I (by omega)).mono ?_;rintro e W8 ⟨rfl,b7⟩;rw[dj];have H8:=oH (H7.out.all b7);clear b7;go_wp2_with fail;refine(VU (p.txt (k+1+1)) W8 (TJ I _).1 (WM (TJ I _).1 HQ.2.2.1) (TJ I _).2).mono ?_;rintro e W9 ⟨b8,v,rfl,hv⟩;have c4:=hv n HQ.2.2.1;subst c4;have H9:=oH (H8.out.all b8);clear b8 hv;have d1:decide ((n:Int)<1)=false:=cI (by omega);have d2:decide ((256:Int)<n)=false:=cI (by omega);go_wp2_with fail;refine(VN pb p A C (k+1+1) m n W9 H9.out.par.pat I HQ.2.1 HQ.2.2.1).mono ?_;rintro e c5 ⟨rfl,o⟩;have a7:=oH (H9.out.moved o);clear o;have b1:=a7.out.box.cl 1;have f1:=a7.out.box.free 1;go_upto_region 9 with fail;have a8:=a7.out.set 1 (.int .i64 n);simp only[ga] at a8;have b9:=oH a8;clear b1 f1 a8;generalize c5.setCell _ _=c6 at*;go_wp2_with fail;refine(xi pb p A C (k+1+1+1) m c6 b9.out.par.pat I HQ.2.2.2).mono ?_;rintro e c7 ⟨rfl,o⟩;have b3:=oH (b9.out.moved o);clear o;have b2:=b3.out.box.cl 2;have f2:=b3.out.box.free 2;go_upto_region 10 with fail;have b4:=b3.out.set 2 (.string (p.txt (k+1+1+1)));simp only[ga] at b4;have j:=oH b4;clear b2 f2 b4;generalize c7.setCell _ _=c8 at*;have c0:=j.out.box.cl 0;have r0:=j.out.res.cl 0;have c1:=j.out.box.cl 1;have r1:=j.out.res.cl 1;have c2:=j.out.box.cl 2;have r2:=j.out.res.cl 2;have c3:=j.out.box.cl 3;have r3:=j.out.res.cl 3;have g0:=j.out.res.free 0;have g1:=j.out.res.free 1;have g2:=j.out.res.free 2;have g3:=j.out.res.free 3;go_wp2_with fail;exact qha pb rb cb p A C _ m _ _ _ _ w c8 _ _ rfl rfl j.out
end
def qbS (s:ByteArray):Nat:=((List.range 13).find? fun i=>decide (0<i)&&(nt i).toList==s.toList).getD 0
theorem qhf {s:ByteArray}{i:Nat}(hi:i<13)(C:0<i)(h:(nt i).toList=s.toList)(o:∀j,j<i→0<j→(nt j).toList≠s.toList):qbS s=i∧XY s=true:=by
 have I:(List.range 13).find? (fun i=>decide (0<i)&&(nt i).toList==s.toList)=some i:=by(
 rw[List.find?_range_eq_some];refine⟨by simp[C,h],fg.2 hi,fun j J=>?_⟩;by_cases h1:0<j;·simp[h1,o j J h1]
 simp[h1])
 constructor;·unfold qbS;rw[I];rfl
 unfold XY;rw[mW];exact⟨i,fg.2 hi,by simp[C,h]⟩
theorem qfE {s:ByteArray}(o:∀j,j<13→0<j→(nt j).toList≠s.toList):qbS s=0∧XY s=false:=by
 constructor
 ·unfold qbS
  have:(List.range 13).find? (fun i=>decide (0<i)&&(nt i).toList==s.toList)=none:=by(
 rw[List.find?_eq_none];intro j C;by_cases h1:0<j;·simp[h1,o j (fg.1 C) h1]
 simp[h1])
  rw[this];rfl
 unfold XY;rw[List.any_eq_false];intro j C;by_cases h1:0<j;·simp[h1,o j (fg.1 C) h1]
 simp[h1]
theorem qcr (s:ByteArray)(w:World)(hl:gz w):Calls prog 230 #[.string s] w fun e w'=>e=.returned (.tuple #[.int .u8 (qbS s),.bool (XY s)])∧w=w':=by
 have Y:=oH hl;clear hl;go_enter func230,ntmps230;go_wp2;go_loopg [5] 13 (fun g s5 wr=>∃i:Nat,g=13-i∧s5=.int .i64 i∧i≤13∧w=wr∧∀j,j<i→0<j→(nt j).toList≠s.toList);·exact⟨0,by omega,rfl,by omega,rfl,fun j h=>by omega⟩
 obtain⟨i,rfl,rfl,hi,rfl,o⟩:=hrel;have I:=oH o;clear o;by_cases C:i<13;·(
 have hc:=Y.2 i C;have hd:decide (13>(i:Int))=true:=by simp;omega
 by_cases h0:0<i;·(
 have J:decide (0<(i:Int))=true:=by simp;omega
 by_cases he:(nt i).toList=s.toList
 ·have R:((nt i).toList==s.toList)=true:=by rw[cy];exact he
  have HO:=oH (qhf C h0 he I.out);clear he;go_wp2;go_ret2;refine⟨?_,rfl⟩;rw[HO.1,HO.2];have:IntKind.u8.wrap (i:Int)=(i:Int):=by rw[IntKind.wrap_u8];omega
  first|rfl|simp[this]|(rw[this];rfl)
 have R:((nt i).toList==s.toList)=false:=by rw[bE];exact he
 have HE:=oH he;clear he;go_wp2;go_roundg (13-(i+1))
 case measure=>omega
 case rel=>exact⟨i+1,rfl,by go_num,by omega,rfl,fun j hj h=>by
  by_cases e:j=i;·subst e;exact HE.out
  exact I.out j (by omega) h⟩)
 have J:decide (0<(i:Int))=false:=by simp;omega
 go_wp2;go_roundg (13-(i+1));·exact⟨i+1,rfl,by go_num,by omega,rfl,fun j hj h=>I.out j (by omega) h⟩
 omega)
 obtain rfl:i=13:=by omega
 have HO:=oH (qfE I.out);go_wp2;go_ret2;exact⟨by rw[HO.1,HO.2]<;>rfl,rfl⟩
theorem qbK {w:World}{b g:Nat}{t:TypeId}{cs:Array Value}{l:mx}(h:al w g t cs)(j:g≠b):al (zs w b l) g t cs:=by unfold al zs at*;rw[Array.getElem?_setIfInBounds_ne (fun e=>j e.symm)];exact h
theorem qcQ (n:Nat)(w:World):Calls prog 251 #[.int .u8 n] w fun e w'=>∃g,e=.returned (.func (.func 252) #[] #[.pointer (some ⟨g,0,none⟩)])∧aa All w w'∧al w' g 5 #[.int .u8 n]∧w.heap.size≤g:=by go_enter func251,ntmps251;go_wp2;go_ret;exact⟨_,rfl,kR.alloc _,al.new _ _ _,cf _⟩
theorem qbD (w:World):Calls prog 231 #[] w fun e w'=>∃b g4 g5,e=.returned (.map (some b))∧Tn w' b (Tz g4 g5)∧aa All w w'∧al w' g4 5 #[.int .u8 4]∧al w' g5 5 #[.int .u8 5]:=by
 have hm:=VK w;have h0:=Vg w;have hk:aa All w (w.alloc (.map #[] 0)):=kR.alloc _;have Y:=TL h0;obtain⟨b,hb⟩:=eQ w.heap.size;have j:w.heap.size≤b:=by omega
 rw[←hb] at hm h0 Y;generalize w.alloc (.map #[] 0)=W at*;have u0:=Hp (Tz 0 0) 0 ⟨#[99,111,110,115,116]⟩ (.func (.func 253) #[] #[]) rfl rfl (by decide) h0;rw[show(Tz 0 0).take 0=[] from rfl,Y] at u0;have HB:=oH j;have a1:=J2 (TD hk j:aa All w (zs W b ((Tz 0 0).take 1))) (h0.set ((Tz 0 0).take 1));clear hk h0 Y hb j;generalize b7:zs W b ((Tz 0 0).take (0+1))=W1 at*;go_enter func231,ntmps231;go_wp2_with fail;refine(qcQ 4 W1).mono ?_;rintro e w2 ⟨g4,rfl,a6,a8,b8⟩;have j:=a1.2.kept a6;have C:g4≠b:=by have:=a1.2.lt;omega
 have b5:=oH (qbK (l:=(Tz g4 0).take 2) a8 C);clear a8;have b0:=TL j;have u1:=Hp (Tz g4 0) 1 ⟨#[108,111,97,100]⟩ (.func (.func 252) #[] #[.pointer (some ⟨g4,0,none⟩)]) rfl rfl (by decide) j;rw[show(Tz g4 0).take 1=(Tz 0 0).take 1 from rfl,b0] at u1;have a7:=J2 (TD (a1.1.trans a6) HB.out:aa All w (zs w2 b ((Tz g4 0).take 2))) (j.set ((Tz g4 0).take 2));clear a6 j b0 u0 hm;have b6:=oH C;clear C;have J:=b5.out;generalize b9:zs w2 b ((Tz g4 0).take (1+1))=W3 at*;go_wp2_with fail;refine(qcQ 5 W3).mono ?_;rintro e w4 ⟨g5,rfl,I,b1,c0⟩;have o:=a7.2.kept I;have R:g5≠b:=by have:=a7.2.lt;omega
 have b2:=J2 (qbK (l:=(Tz g4 g5).take 7) (J.kept I trivial) b6.out) (qbK (l:=(Tz g4 g5).take 7) b1 R);clear b1 R J;have b3:=TL o;have u2:=Hp (Tz g4 g5) 2 ⟨#[119,114,97,112]⟩ (.func (.func 252) #[] #[.pointer (some ⟨g5,0,none⟩)]) rfl rfl (by decide) o;have u3:=Hp (Tz g4 g5) 3 ⟨#[105,110,112,117,116]⟩ (.func (.func 254) #[] #[]) rfl rfl (by decide) o;have u4:=Hp (Tz g4 g5) 4 ⟨#[99,97,108,108]⟩ (.func (.func 255) #[] #[]) rfl rfl (by decide) o;have u5:=Hp (Tz g4 g5) 5 ⟨#[114,101,108,101,97,115,101]⟩ (.func (.func 256) #[] #[]) rfl rfl (by decide) o;have u6:=Hp (Tz g4 g5) 6 ⟨#[112,104,105]⟩ (.func (.func 257) #[] #[]) rfl rfl (by decide) o;rw[show(Tz g4 g5).take 2=(Tz g4 0).take 2 from rfl,b3] at u2;have b4:=J2 (TD (a7.1.trans I) HB.out:aa All w (zs w4 b ((Tz g4 g5).take 7))) (o.set ((Tz g4 g5).take 7));clear I o b3 u1;go_wp2_with fail;go_ret;exact⟨b,g4,g5,rfl,b4.2,b4.1,b2.1,b2.2⟩
theorem qcN (B pb o g n:Nat)(p:cr)(A:Option Addr)(C k m:Nat)(x:cX)(w:World)(h:PB w B pb p A C k m)(hx:Uh w B o x)(hp:p.Ok)(hg:al w g 5 #[.int .u8 n])(hq:p.is k 1=true)(I:p.is (k+1) 1=true):
 Calls prog 252 #[.pointer (some ⟨pb,0,none⟩),.pointer (some ⟨o,0,none⟩),.pointer (some ⟨g,0,none⟩)] w (Ua B pb o p A C m (k+1+1) {x with kind:=n,ref:=p.txt k,args:=[p.txt (k+1)]} w):=by
 have J:=oH (St.first h hx);clear h hx;go_enter func252,ntmps252;have q0:=hg.cl 0;clear hg;obtain⟨u0,R⟩:=J.out.Nb.cellAt 0 (by decide);have Y:=J.out.Nb.free 0;go_upto_region 1 with fail;have j:=J.out.set 0 (.int .u8 n) (x':= {x with kind:=n}) rfl rfl (fun _ _=>rfl);generalize w.setCell _ _=W1 at*;have H1:=oH j;clear j R Y q0;go_wp2_with fail;refine(xi pb p A C _ m _ H1.out.par.pat hp hq).mono ?_;rintro e w2 ⟨rfl,hm⟩;have H2:=oH (H1.out.moved hm);clear hm;obtain⟨u3,a1⟩:=H2.out.Nb.cellAt 3 (by decide);have a6:=H2.out.Nb.free 3;go_upto_region 2 with fail;have j:=H2.out.set 3 (.string (p.txt k)) (x':= {x with kind:=n,ref:=p.txt k}) rfl rfl (fun _ _=>rfl);generalize w2.setCell _ _=W3 at*;have H3:=oH j;clear j a1 a6;go_wp2_with fail;refine(xi pb p A C _ m _ H3.out.par.pat hp I).mono ?_;rintro e w4 ⟨rfl,hm⟩;have H4:=oH (H3.out.moved hm);clear hm;have a7:=(H4.out.all ((aa.refl All w4).alloc (.cells #[.string (p.txt (k+1))] 9))).Nb.free 5;obtain⟨b0,a8⟩:=(H4.out.all ((aa.refl All w4).alloc (.cells #[.string (p.txt (k+1))] 9))).Nb.cellAt 5 (by decide);go_wp2_with fail
 go_end0
 exact⟨rfl,qgI H4.out⟩
theorem qev (B pb xb:Nat)(p:cr)(A:Option Addr)(C k m:Nat)(x:cX)(w:World)(h:PB w B pb p A C k m)(hx:Uh w B xb x)(hp:p.Ok)(hq:p.is k 1=true)(b3:p.is (k+1) 1=true)(b4:p.is (k+1+1) 1=true)(hl:x.args.length≤1000):
 Calls prog 225 #[.pointer (some ⟨pb,0,none⟩),.pointer (some ⟨xb,0,none⟩)] w (Ua B pb xb p A C m (k+1+1+1) {x with kind:=6,ref:=p.txt k,args:=x.args++[p.txt (k+1),p.txt (k+1+1)]} w):=by
 obtain⟨iS,IS⟩:=iH UP;have H0:=oH (St.first h hx);clear h hx;go_enter func225,ntmps225;go_wp2_with fail;refine(xi pb p A C _ m _ H0.out.par.pat hp hq).mono ?_;rintro e w1 ⟨rfl,hm⟩;have H1:=oH (H0.out.moved hm);clear hm;obtain⟨u0,b6⟩:=H1.out.Nb.cellAt 0 (by decide);have b7:=H1.out.Nb.free 0;obtain⟨u3,b8⟩:=H1.out.Nb.cellAt 3 (by decide);have b9:=H1.out.Nb.free 3;go_upto_region 1 with fail;have h2:=(H1.out.set 0 (.int .u8 6) (x':= {x with kind:=6}) rfl rfl (fun _ _=>rfl)).set 3 (.string (p.txt k)) (x':= {x with kind:=6,ref:=p.txt k}) rfl rfl (fun _ _=>rfl);generalize World.setCell (World.setCell w1 _ _) _ _=W2 at*;have H2:=oH h2;clear h2 b6 b7 b8 b9;obtain⟨aA,aC,fA,fC,hb,ra,rf,J,a1⟩:=H2.out.Nb;have HC:=oH (fun wn (hn:PB wn B pb p A C (k+1) m)=>xi pb p A C _ m wn hn.pat hp b3);have HV:=oH (fun wn (hn:aa (fun i=>(Value.ownBlock (.slice aA (x).args.length aC))≠some i∧i≠pb) W2 wn)=>show wn.cell? ⟨xb,5,none⟩=some (.slice aA (x).args.length aC) from(hb.kept hn ⟨eo ra hb (by decide),H2.out.ne⟩).cell 5);have HG:=oH (Ue (k:=k+1) (S:=fun y=>y=.string (p.txt (k+1))) H2.out.par ra);have HR:=J3 ra (show PB W2.drew B pb p A C (if false=true then(k+1)+1 else(k+1)) m from H2.out.par.kept (S:=All) kR.drew fun _ _=>trivial) H2.out.par.size;have o:=J4 hb rf J a1;clear hb ra rf J a1;refine hH 11 6 [7,8] (SY W2 (fun i=>i≠pb) B 9 1 (.slice aA (x).args.length aC) (x).args.length ((x).args.map Value.string) (fun b w=>PB w B pb p A C (if b then(k+1)+1 else(k+1)) m)) [18,19,20] (FY W2 (fun i=>i≠pb) B 9 1 (.slice aA (x).args.length aC) (x).args.length ((x).args.map Value.string) (fun y=>[y]) (fun y _=>y=.string (p.txt (k+1))) 19 18) (fun i=>if i=6 then some (fun y=>y=.string (p.txt (k+1))) else if i=7 then some Oa else if i=8 then some (NT (x).args.length) else none) (fun _=>false) (fun _ _=>False) (by kernel_rfl) (by kernel_rfl) (by kernel_rfl) (by kernel_rfl) (VJ _ _ _) (by kernel_rfl) (by decide) (SY.first HR.1 HR.2.1) (fun _ _ _ h=>h.elim) ?_;simp only[tK];iterate 6 refine OY (fun b wn R hp=>by(have q:=HV.out wn R.1;skip;go_simp;with_reducible rfl)) ?_
 refine Hy (V:=(fun y=>y=.string (p.txt (k+1)))) HG.out (by rfl) (by rfl) (by rfl) rfl (by decide) (fun wn R=>⟨_,_,by(have q:=HV.out wn R.1;go_simp<;>with_reducible rfl),(HC.out wn R.2.2).mono fun e w' h=>⟨_,h.1,rfl,h.2.1,R.2.2.moved h.2,rfl⟩⟩) ?_;rintro u rfl;simp only[PS];refine Tv HG.out (by decide) (by rfl) (by rfl) (by rfl) rfl (by decide) _ rfl (by decide) (fun wn R=>by(skip;go_simp<;>with_reducible rfl)) ?_;intro g;simp only[PS];refine Tu HG.out (by decide) (by rfl) (by rfl) (by rfl) rfl (by decide) (by decide) (.tmp 16) 22 rfl iS _ 16 underlying22 IS.1 IS.2.1 IS.2.2.1 IS.2.2.2 rfl (by decide) rfl g rfl (by decide) (fun y w hy=>by subst hy;exact⟨rfl,fun u hu=>by rw[cx.1 hu];rfl⟩) (by unfold maxLen;show x.args.length+1≤_;omega) (by show(x.args.length+1)*16≤_;omega) HR.2.2 ?_;intro A5 c5;simp only[PS];iterate 2 refine OY (fun b wn R hp=>by(have q:=HV.out wn R.1;skip;go_simp;with_reducible rfl)) ?_
 refine TE fun wt a6 hF=>?_;have I:=hF 20 (by simp) _ rfl;unfold FY at I;rw[ae (by decide),ae (by decide)] at I;have HT:=oH (show SY _ _ _ _ _ _ _ _ _ _ _ from a6);have HA:=oH I;clear a6 hF I;simp only[dK];have j:=o.1.kept HT.1 ⟨eo HR.1 o.1 (by decide),H2.out.ne⟩;have b5:=j.cl 5;have f5:=j.free 5;clear j;go_upto_region 2 with fail;obtain⟨y,wz,q1,rfl,q3,q4,q5⟩:=HA.out;have j:=o.1.kept HT.1 ⟨eo HR.1 o.1 (by decide),H2.out.ne⟩;have a7:=be o.2.1 HT.1 fun g hg=>⟨fun e=>o.2.2.1 g e hg,by rintro rfl;exact eo o.2.1 H2.out.par.box (by decide) hg⟩;have hX:=Uh.put_args (x:= {x with kind:=6,ref:=p.txt k}) j q1 a7 (UL o.2.1 o.2.2.1 q3 q5) o.2.2.2;have a8:=Vy H2.out HR.1 HT.1 HT.2.2 hX;generalize wt.setCell _ _=b0 at*;have H3:=oH a8;clear j a7 hX a8 q1 q3 q4 q5 b5 f5 HA HT o HR HG HV HC;obtain⟨Y,b1⟩:∃Y:cX,Y= {x with kind:=6,ref:=p.txt k,args:=x.args++[p.txt (k+1)]}:=⟨_,rfl⟩;rw[←b1] at H3;have c0:Y.args.length≤1001:=by rw[b1];show(x.args++[p.txt (k+1)]).length≤1001;simp;omega
 have b2:=oH b1;clear b1;obtain⟨aA,aC,fA,fC,hb,ra,rf,J,a1⟩:=H3.out.Nb;have HC:=oH (fun wn (hn:PB wn B pb p A C (k+1+1) m)=>xi pb p A C _ m wn hn.pat hp b4);have HV:=oH (fun wn (hn:aa (fun i=>(Value.ownBlock (.slice aA (Y).args.length aC))≠some i∧i≠pb) b0 wn)=>show wn.cell? ⟨xb,5,none⟩=some (.slice aA (Y).args.length aC) from(hb.kept hn ⟨eo ra hb (by decide),H3.out.ne⟩).cell 5);have HG:=oH (Ue (k:=k+1+1) (S:=fun y=>y=.string (p.txt (k+1+1))) H3.out.par ra);have HR:=J3 ra (show PB b0.drew B pb p A C (if false=true then(k+1+1)+1 else(k+1+1)) m from H3.out.par.kept (S:=All) kR.drew fun _ _=>trivial) H3.out.par.size;have o:=J4 hb rf J a1;clear hb ra rf J a1;refine hH 11 6 [7,8] (SY b0 (fun i=>i≠pb) B 9 1 (.slice aA (Y).args.length aC) (Y).args.length ((Y).args.map Value.string) (fun b w=>PB w B pb p A C (if b then(k+1+1)+1 else(k+1+1)) m)) [29,30,31] (FY b0 (fun i=>i≠pb) B 9 1 (.slice aA (Y).args.length aC) (Y).args.length ((Y).args.map Value.string) (fun y=>[y]) (fun y _=>y=.string (p.txt (k+1+1))) 30 29) (fun i=>if i=6 then some (fun y=>y=.string (p.txt (k+1+1))) else if i=7 then some Oa else if i=8 then some (NT (Y).args.length) else none) (fun _=>false) (fun _ _=>False) (by kernel_rfl) (by kernel_rfl) (by kernel_rfl) (by kernel_rfl) (VJ _ _ _) (by kernel_rfl) (by decide) (SY.first HR.1 HR.2.1) (fun _ _ _ h=>h.elim) ?_;simp only[tK];iterate 6 refine OY (fun b wn R hp=>by(have q:=HV.out wn R.1;skip;go_simp;with_reducible rfl)) ?_
 refine Hy (V:=(fun y=>y=.string (p.txt (k+1+1)))) HG.out (by rfl) (by rfl) (by rfl) rfl (by decide) (fun wn R=>⟨_,_,by(have q:=HV.out wn R.1;go_simp<;>with_reducible rfl),(HC.out wn R.2.2).mono fun e w' h=>⟨_,h.1,rfl,h.2.1,R.2.2.moved h.2,rfl⟩⟩) ?_;rintro u rfl;simp only[PS];refine Tv HG.out (by decide) (by rfl) (by rfl) (by rfl) rfl (by decide) _ rfl (by decide) (fun wn R=>by(skip;go_simp<;>with_reducible rfl)) ?_;intro g;simp only[PS];refine Tu HG.out (by decide) (by rfl) (by rfl) (by rfl) rfl (by decide) (by decide) (.tmp 27) 22 rfl iS _ 16 underlying22 IS.1 IS.2.1 IS.2.2.1 IS.2.2.2 rfl (by decide) rfl g rfl (by decide) (fun y w hy=>by subst hy;exact⟨rfl,fun u hu=>by rw[cx.1 hu];rfl⟩) (by unfold maxLen;show Y.args.length+1≤_;omega) (by show(Y.args.length+1)*16≤_;omega) HR.2.2 ?_;intro A5 c5;simp only[PS];iterate 2 refine OY (fun b wn R hp=>by(have q:=HV.out wn R.1;skip;go_simp;with_reducible rfl)) ?_
 refine TE fun wt a6 hF=>?_;have I:=hF 31 (by simp) _ rfl;unfold FY at I;rw[ae (by decide),ae (by decide)] at I;have HT:=oH (show SY _ _ _ _ _ _ _ _ _ _ _ from a6);have HA:=oH I;clear a6 hF I;simp only[dK];have j:=o.1.kept HT.1 ⟨eo HR.1 o.1 (by decide),H3.out.ne⟩;have b5:=j.cl 5;have f5:=j.free 5;clear j;go_wp2_with fail
 go_end0
 obtain⟨y,wz,q1,rfl,q3,q4,q5⟩:=HA.out;have j:=o.1.kept HT.1 ⟨eo HR.1 o.1 (by decide),H3.out.ne⟩;have a7:=be o.2.1 HT.1 fun g hg=>⟨fun e=>o.2.2.1 g e hg,by rintro rfl;exact eo o.2.1 H3.out.par.box (by decide) hg⟩;have hX:=Uh.put_args (x:=Y) j q1 a7 (UL o.2.1 o.2.2.1 q3 q5) o.2.2.2;have a8:=Vy H3.out HR.1 HT.1 HT.2.2 hX;exact⟨rfl,by have e1:=b2.out;clear b2;subst e1;rw[show x.args++[p.txt (k+1),p.txt (k+1+1)]=x.args++[p.txt (k+1)]++[p.txt (k+1+1)] by simp];exact a8⟩
section
theorem qhb (f:FuncId)(g:Nat)(w:World):(binOp .neq 269 (.func (.func f) #[] #[.pointer (some ⟨g,0,none⟩)]) .nilFunc).run prog w=.ok (.bool true) w:=by kernel_rfl
attribute [local go_sem] Xf qhb
theorem pvw (F:FuncId)(B pb I:Nat)(p:cr)(A:Option Addr)(C k m k':Nat)(x x':cX)(w:World)(h:PB w B pb p A C k m)(hx:Uh w B I x)(hp:p.Ok)(hl:gz w)(hs:XY (p.txt k)=false)(hF:F=253∨F=254∨F=255∨F=256∨F=257)(Y:p.txt k≠gR)
 (j:∀g4 g5,TH (Tz g4 g5) (p.txt k)=some (.func (.func F) #[] #[]))
 (hc:∀W,PB W B pb p A C (k+1) m→Uh W B I x→Calls prog F #[.pointer (some ⟨pb,0,none⟩),.pointer (some ⟨I,0,none⟩)] W (Ua B pb I p A C m k' x' W)):
 Calls prog 196 #[.pointer (some ⟨pb,0,none⟩),.pointer (some ⟨I,0,none⟩)] w (Ua B pb I p A C m k' x' w):=by
 have H0:=J2 (St.first h hx) hl;have hlen:=hp.len;have a8:=TM (p:=p) (k:=k) Y;have b0:=(TJ hp k).2;have HQ:=J3 hs j hc;clear h hx hl hs j hc Y;go_enter func196,ntmps196;go_wp2_with fail;refine(xt pb p A C k m 0 w H0.1.par.pat hp (by omega)).mono ?_;rintro e w1 ⟨rfl,J⟩;rw[dj];have H1:=J2 (H0.1.all J) (H0.2.keep J);clear J;go_wp2_with fail;refine(qcr (p.txt k) w1 H1.2).mono ?_;rintro e w2 ⟨rfl,rfl⟩;rw[HQ.1];go_wp2_with fail;refine(qbD w1).mono ?_;rintro e w3 ⟨b,g4,g5,rfl,o,a1,_,_⟩;have H3:=oH (H1.1.all a1);have j:=Ux (p.txt k) (by unfold maxLen;omega) o;rw[HQ.2.1 g4 g5] at j;rw[show(some (Value.func (.func F) #[] #[])).getD .nilFunc=.func (.func F) #[] #[] from rfl] at j;have R:=H3.out.par.box;have b2:=R.cl 2;have f2:=R.free 2;clear a1 o R;go_upto_region 11 with fail;have a6:wi pb p A C (k+1) m w3 (w3.setCell ⟨pb,2,none⟩ (.int .i64 ((k+1:Nat)))):=wi.of H3.out.par.pat kR (by omega);have H4:=oH (show St w B pb I p A C m (k+1) x (w3.setCell ⟨pb,2,none⟩ (.int .i64 ((k:Int)+1))) by simpa using H3.out.moved a6);clear a6;generalize w3.setCell _ _=W4 at*;clear b2 f2 j;rcases hF with rfl|rfl|rfl|rfl|rfl
 all_goals
  go_wp2_with fail;refine(HQ.2.2 W4 H4.out.par H4.out.Nb).mono ?_;rintro e W5 ⟨rfl,a7⟩;have H5:=oH (Ts H4.out a7);clear a7;go_wp2_with fail
  go_end0
  exact⟨rfl,H5.out⟩
theorem pvc (R:Nat→Nat→Nat)(n:Nat)(B pb Y:Nat)(p:cr)(A:Option Addr)(C k m k':Nat)(x x':cX)(w:World)(h:PB w B pb p A C k m)(hx:Uh w B Y x)(hp:p.Ok)(hl:gz w)(hs:XY (p.txt k)=false)(a7:p.txt k≠gR)
 (j:∀g4 g5,TH (Tz g4 g5) (p.txt k)=some (.func (.func 252) #[] #[.pointer (some ⟨R g4 g5,0,none⟩)]))
 (I:∀w g4 g5,al w g4 5 #[.int .u8 4]→al w g5 5 #[.int .u8 5]→al w (R g4 g5) 5 #[.int .u8 n])
 (hc:∀W g,al W g 5 #[.int .u8 n]→PB W B pb p A C (k+1) m→Uh W B Y x→Calls prog 252 #[.pointer (some ⟨pb,0,none⟩),.pointer (some ⟨Y,0,none⟩),.pointer (some ⟨g,0,none⟩)] W (Ua B pb Y p A C m k' x' W)):
 Calls prog 196 #[.pointer (some ⟨pb,0,none⟩),.pointer (some ⟨Y,0,none⟩)] w (Ua B pb Y p A C m k' x' w):=by
 have H0:=J2 (St.first h hx) hl;have hlen:=hp.len;have b6:=TM (p:=p) (k:=k) a7;have b7:=(TJ hp k).2;have HQ:=J4 hs j hc I;clear h hx hl hs j hc a7 I;go_enter func196,ntmps196;go_wp2_with fail;refine(xt pb p A C k m 0 w H0.1.par.pat hp (by omega)).mono ?_;rintro e w1 ⟨rfl,a1⟩;rw[dj];have H1:=J2 (H0.1.all a1) (H0.2.keep a1);clear a1;go_wp2_with fail;refine(qcr (p.txt k) w1 H1.2).mono ?_;rintro e w2 ⟨rfl,rfl⟩;rw[HQ.1];go_wp2_with fail;refine(qbD w1).mono ?_;rintro e w3 ⟨b,g4,g5,rfl,J,a8,b0,b1⟩;have H3:=oH (H1.1.all a8);have j:=Ux (p.txt k) (by unfold maxLen;omega) J;have HG:=oH (HQ.2.2.2 w3 g4 g5 b0 b1);rw[HQ.2.1 g4 g5] at j;generalize R g4 g5=g at*;rw[show(some (Value.func (.func 252) #[] #[.pointer (some ⟨g,0,none⟩)])).getD .nilFunc=.func (.func 252) #[] #[.pointer (some ⟨g,0,none⟩)] from rfl] at j;have o:=H3.out.par.box;have b3:g≠pb:=HG.out.ne o (by decide);have b2:=o.cl 2;have f2:=o.free 2;clear a8 J o b0 b1;go_upto_region 11 with fail;have a6:wi pb p A C (k+1) m w3 (w3.setCell ⟨pb,2,none⟩ (.int .i64 ((k+1:Nat)))):=wi.of H3.out.par.pat kR (by omega);have b4:=HG.out.kept a6.1 b3;have H4:=J2 (show St w B pb Y p A C m (k+1) x (w3.setCell ⟨pb,2,none⟩ (.int .i64 ((k:Int)+1))) by simpa using H3.out.moved a6) (show al (w3.setCell ⟨pb,2,none⟩ (.int .i64 ((k:Int)+1))) g 5 #[.int .u8 n] by simpa using b4);clear a6 b4 b3;generalize w3.setCell _ _=W4 at*;clear b2 f2 j;go_wp2_with fail;refine(HQ.2.2.1 W4 g H4.2 H4.1.par H4.1.Nb).mono ?_;rintro e W5 ⟨rfl,b5⟩;have H5:=oH (Ts H4.1 b5);clear b5;go_wp2_with fail
 go_end0
 exact⟨rfl,H5.out⟩
end
theorem qjh (B pb xb:Nat)(p:cr)(A:Option Addr)(C k m:Nat)(x:cX)(w:World)(h:PB w B pb p A C k m)(hx:Uh w B xb x)(hp:p.Ok)(hl:gz w)(o:XY (p.txt k)=true)(c1:p.is (k+1) 1=true)(c4:p.is (k+1+1) 1=true)(d7:x.args.length≤1000):
 Calls prog 196 #[.pointer (some ⟨pb,0,none⟩),.pointer (some ⟨xb,0,none⟩)] w (Ua B pb xb p A C m (k+1+1+1) {x with kind:=2,op:=qbS (p.txt k),args:=x.args++[p.txt (k+1),p.txt (k+1+1)]} w):=by
 obtain⟨iS,IS⟩:=iH UP;have H0:=J2 (St.first h hx) hl;have hlen:=hp.len;have d8:=TM (p:=p) (k:=k) (by intro e;rw[e,show XY gR=false by kernel_rfl] at o;cases o);have d9:=(TJ hp k).2;have HQ:=oH o;clear h hx hl o;go_enter func196,ntmps196;go_wp2_with fail;refine(xt pb p A C k m 0 w H0.1.par.pat hp (by omega)).mono ?_;rintro e w1 ⟨rfl,b4⟩;rw[dj];have H1:=J2 (H0.1.all b4) (H0.2.keep b4);clear b4;go_wp2_with fail;refine(qcr (p.txt k) w1 H1.2).mono ?_;rintro e w2 ⟨rfl,rfl⟩;rw[HQ.out];go_wp2_with fail;refine(qbD w1).mono ?_;rintro e w3 ⟨b,g4,g5,rfl,b3,b7,_,_⟩;have H3:=oH (H1.1.all b7);have b8:=Ux (p.txt k) (by unfold maxLen;omega) b3;generalize (TH (Tz g4 g5) (p.txt k)).getD .nilFunc=fv at b8;have b6:=H3.out.par.box;have b2:=b6.cl 2;have f2:=b6.free 2;clear b7 b3 b6;go_upto_region 6 with fail;have b9:wi pb p A C (k+1) m w3 (w3.setCell ⟨pb,2,none⟩ (.int .i64 ((k+1:Nat)))):=wi.of H3.out.par.pat kR (by omega);have H4:=oH (show St w B pb xb p A C m (k+1) x (w3.setCell ⟨pb,2,none⟩ (.int .i64 ((k:Int)+1))) by simpa using H3.out.moved b9);clear b9;generalize w3.setCell _ _=W4 at*;clear b2 f2 b8;obtain⟨u0,c6⟩:=H4.out.Nb.cellAt 0 (by decide);have c7:=H4.out.Nb.free 0;obtain⟨u1,c8⟩:=H4.out.Nb.cellAt 1 (by decide);have c9:=H4.out.Nb.free 1;go_upto_region 7 with fail;have h2:=(H4.out.set 0 (.int .u8 2) (x':= {x with kind:=2}) rfl rfl (fun _ _=>rfl)).set 1 (.int .u8 (qbS (p.txt k))) (x':= {x with kind:=2,op:=qbS (p.txt k)}) rfl rfl (fun _ _=>rfl);generalize World.setCell (World.setCell W4 _ _) _ _=W5 at*;have H5:=oH h2;clear h2 c6 c7 c8 c9;obtain⟨aA,aC,fA,fC,hb,ra,rf,R,a1⟩:=H5.out.Nb;have HC:=oH (fun wn (hn:PB wn B pb p A C (k+1) m)=>xi pb p A C _ m wn hn.pat hp c1);have HV:=oH (fun wn (hn:aa (fun i=>(Value.ownBlock (.slice aA (x).args.length aC))≠some i∧i≠pb) W5 wn)=>show wn.cell? ⟨xb,5,none⟩=some (.slice aA (x).args.length aC) from(hb.kept hn ⟨eo ra hb (by decide),H5.out.ne⟩).cell 5);have HG:=oH (Ue (k:=k+1) (S:=fun y=>y=.string (p.txt (k+1))) H5.out.par ra);have HR:=J3 ra (show PB W5.drew B pb p A C (if false=true then(k+1)+1 else(k+1)) m from H5.out.par.kept (S:=All) kR.drew fun _ _=>trivial) H5.out.par.size;have I:=J4 hb rf R a1;clear hb ra rf R a1;refine hH 11 6 [7,8] (SY W5 (fun i=>i≠pb) B 9 1 (.slice aA (x).args.length aC) (x).args.length ((x).args.map Value.string) (fun b w=>PB w B pb p A C (if b then(k+1)+1 else(k+1)) m)) [42,43,44] (FY W5 (fun i=>i≠pb) B 9 1 (.slice aA (x).args.length aC) (x).args.length ((x).args.map Value.string) (fun y=>[y]) (fun y _=>y=.string (p.txt (k+1))) 43 42) (fun i=>if i=6 then some (fun y=>y=.string (p.txt (k+1))) else if i=7 then some Oa else if i=8 then some (NT (x).args.length) else none) (fun _=>false) (fun _ _=>False) (by kernel_rfl) (by kernel_rfl) (by kernel_rfl) (by kernel_rfl) (VJ _ _ _) (by kernel_rfl) (by decide) (SY.first HR.1 HR.2.1) (fun _ _ _ h=>h.elim) ?_;simp only[tK];iterate 6 refine OY (fun b wn o hp=>by(have q:=HV.out wn o.1;skip;go_simp;with_reducible rfl)) ?_
 refine Hy (V:=(fun y=>y=.string (p.txt (k+1)))) HG.out (by rfl) (by rfl) (by rfl) rfl (by decide) (fun wn o=>⟨_,_,by(have q:=HV.out wn o.1;go_simp<;>with_reducible rfl),(HC.out wn o.2.2).mono fun e w' h=>⟨_,h.1,rfl,h.2.1,o.2.2.moved h.2,rfl⟩⟩) ?_;rintro u rfl;simp only[PS];refine Tv HG.out (by decide) (by rfl) (by rfl) (by rfl) rfl (by decide) _ rfl (by decide) (fun wn o=>by(skip;go_simp<;>with_reducible rfl)) ?_;intro g;simp only[PS];refine Tu HG.out (by decide) (by rfl) (by rfl) (by rfl) rfl (by decide) (by decide) (.tmp 40) 22 rfl iS _ 16 underlying22 IS.1 IS.2.1 IS.2.2.1 IS.2.2.2 rfl (by decide) rfl g rfl (by decide) (fun y w hy=>by subst hy;exact⟨rfl,fun u hu=>by rw[cx.1 hu];rfl⟩) (by unfold maxLen;show x.args.length+1≤_;omega) (by show(x.args.length+1)*16≤_;omega) HR.2.2 ?_;intro A5 c5;simp only[PS];iterate 2 refine OY (fun b wn o hp=>by(have q:=HV.out wn o.1;skip;go_simp;with_reducible rfl)) ?_
 refine TE fun wt a6 hF=>?_;have J:=hF 44 (by simp) _ rfl;unfold FY at J;rw[ae (by decide),ae (by decide)] at J;have HT:=oH (show SY _ _ _ _ _ _ _ _ _ _ _ from a6);have HA:=oH J;clear a6 hF J;simp only[dK];have j:=I.1.kept HT.1 ⟨eo HR.1 I.1 (by decide),H5.out.ne⟩;have b5:=j.cl 5;have f5:=j.free 5;clear j;go_upto_region 8 with fail;obtain⟨y,wz,q1,rfl,q3,q4,q5⟩:=HA.out;have j:=I.1.kept HT.1 ⟨eo HR.1 I.1 (by decide),H5.out.ne⟩;have a7:=be I.2.1 HT.1 fun g hg=>⟨fun e=>I.2.2.1 g e hg,by rintro rfl;exact eo I.2.1 H5.out.par.box (by decide) hg⟩;have hX:=Uh.put_args (x:= {x with kind:=2,op:=qbS (p.txt k)}) j q1 a7 (UL I.2.1 I.2.2.1 q3 q5) I.2.2.2;have a8:=Vy H5.out HR.1 HT.1 HT.2.2 hX;generalize wt.setCell _ _=b0 at*;have H6:=oH a8;clear j a7 hX a8 q1 q3 q4 q5 b5 f5 HA HT I HR HG HV HC;obtain⟨Y,b1⟩:∃Y:cX,Y= {x with kind:=2,op:=qbS (p.txt k),args:=x.args++[p.txt (k+1)]}:=⟨_,rfl⟩;rw[←b1] at H6;have e0:Y.args.length≤1001:=by rw[b1];show(x.args++[p.txt (k+1)]).length≤1001;simp;omega
 have c0:=oH b1;clear b1;obtain⟨aA,aC,fA,fC,hb,ra,rf,R,a1⟩:=H6.out.Nb;have HC:=oH (fun wn (hn:PB wn B pb p A C (k+1+1) m)=>xi pb p A C _ m wn hn.pat hp c4);have HV:=oH (fun wn (hn:aa (fun i=>(Value.ownBlock (.slice aA (Y).args.length aC))≠some i∧i≠pb) b0 wn)=>show wn.cell? ⟨xb,5,none⟩=some (.slice aA (Y).args.length aC) from(hb.kept hn ⟨eo ra hb (by decide),H6.out.ne⟩).cell 5);have HG:=oH (Ue (k:=k+1+1) (S:=fun y=>y=.string (p.txt (k+1+1))) H6.out.par ra);have HR:=J3 ra (show PB b0.drew B pb p A C (if false=true then(k+1+1)+1 else(k+1+1)) m from H6.out.par.kept (S:=All) kR.drew fun _ _=>trivial) H6.out.par.size;have I:=J4 hb rf R a1;clear hb ra rf R a1;refine hH 11 6 [7,8] (SY b0 (fun i=>i≠pb) B 9 1 (.slice aA (Y).args.length aC) (Y).args.length ((Y).args.map Value.string) (fun b w=>PB w B pb p A C (if b then(k+1+1)+1 else(k+1+1)) m)) [53,54,55] (FY b0 (fun i=>i≠pb) B 9 1 (.slice aA (Y).args.length aC) (Y).args.length ((Y).args.map Value.string) (fun y=>[y]) (fun y _=>y=.string (p.txt (k+1+1))) 54 53) (fun i=>if i=6 then some (fun y=>y=.string (p.txt (k+1+1))) else if i=7 then some Oa else if i=8 then some (NT (Y).args.length) else none) (fun _=>false) (fun _ _=>False) (by kernel_rfl) (by kernel_rfl) (by kernel_rfl) (by kernel_rfl) (VJ _ _ _) (by kernel_rfl) (by decide) (SY.first HR.1 HR.2.1) (fun _ _ _ h=>h.elim) ?_;simp only[tK];iterate 6 refine OY (fun b wn o hp=>by(have q:=HV.out wn o.1;skip;go_simp;with_reducible rfl)) ?_
 refine Hy (V:=(fun y=>y=.string (p.txt (k+1+1)))) HG.out (by rfl) (by rfl) (by rfl) rfl (by decide) (fun wn o=>⟨_,_,by(have q:=HV.out wn o.1;go_simp<;>with_reducible rfl),(HC.out wn o.2.2).mono fun e w' h=>⟨_,h.1,rfl,h.2.1,o.2.2.moved h.2,rfl⟩⟩) ?_;rintro u rfl;simp only[PS];refine Tv HG.out (by decide) (by rfl) (by rfl) (by rfl) rfl (by decide) _ rfl (by decide) (fun wn o=>by(skip;go_simp<;>with_reducible rfl)) ?_;intro g;simp only[PS];refine Tu HG.out (by decide) (by rfl) (by rfl) (by rfl) rfl (by decide) (by decide) (.tmp 51) 22 rfl iS _ 16 underlying22 IS.1 IS.2.1 IS.2.2.1 IS.2.2.2 rfl (by decide) rfl g rfl (by decide) (fun y w hy=>by subst hy;exact⟨rfl,fun u hu=>by rw[cx.1 hu];rfl⟩) (by unfold maxLen;show Y.args.length+1≤_;omega) (by show(Y.args.length+1)*16≤_;omega) HR.2.2 ?_;intro A5 c5;simp only[PS];iterate 2 refine OY (fun b wn o hp=>by(have q:=HV.out wn o.1;skip;go_simp;with_reducible rfl)) ?_
 refine TE fun wt a6 hF=>?_;have J:=hF 55 (by simp) _ rfl;unfold FY at J;rw[ae (by decide),ae (by decide)] at J;have HT:=oH (show SY _ _ _ _ _ _ _ _ _ _ _ from a6);have HA:=oH J;clear a6 hF J;simp only[dK];have j:=I.1.kept HT.1 ⟨eo HR.1 I.1 (by decide),H6.out.ne⟩;have b5:=j.cl 5;have f5:=j.free 5;clear j;go_wp2_with fail
 go_end0
 obtain⟨y,wz,q1,rfl,q3,q4,q5⟩:=HA.out;have j:=I.1.kept HT.1 ⟨eo HR.1 I.1 (by decide),H6.out.ne⟩;have a7:=be I.2.1 HT.1 fun g hg=>⟨fun e=>I.2.2.1 g e hg,by rintro rfl;exact eo I.2.1 H6.out.par.box (by decide) hg⟩;have hX:=Uh.put_args (x:=Y) j q1 a7 (UL I.2.1 I.2.2.1 q3 q5) I.2.2.2;have a8:=Vy H6.out HR.1 HT.1 HT.2.2 hX;exact⟨rfl,by have e1:=c0.out;clear c0;subst e1;rw[show x.args++[p.txt (k+1),p.txt (k+1+1)]=x.args++[p.txt (k+1)]++[p.txt (k+1+1)] by simp];exact a8⟩
def qfZ:ByteArray:=bs [108,111,97,100]
def qga:ByteArray:=bs [119,114,97,112]
def qew:ByteArray:=bs [105,110,112,117,116]
def qfY:ByteArray:=bs [99,97,108,108]
def qcs:ByteArray:=bs [114,101,108,101,97,115,101]
def qex:ByteArray:=bs [115,116,111,114,101]
def qdk:ByteArray:=bs [111,117,116,112,117,116]
def qfX:ByteArray:=bs [97,114,114,97,121]
def qcc (p:cr)(x:cX)(k:Nat):Option (cX×Nat):=
 if XY (p.txt k)=true then do
  let(a,j)←Ty p 1 (k+1)
  let(b,o)←Ty p 1 j
  some ({x with kind:=2,op:=qbS (p.txt k),args:=x.args++[a,b]},o)
 else if p.txt k=qfZ then do
  let(a,j)←Ty p 1 (k+1)
  let(b,o)←Ty p 1 j
  some ({x with kind:=4,ref:=a,args:=[b]},o)
 else if p.txt k=qga then do
  let(a,j)←Ty p 1 (k+1)
  let(b,o)←Ty p 1 j
  some ({x with kind:=5,ref:=a,args:=[b]},o)
 else if p.txt k=qew then do
  let(a,j)←Ty p 1 (k+1)
  some ({x with kind:=8,ref:=a},j)
 else if p.txt k=qfY then do
  let(a,j)←Ty p 1 (k+1)
  let(l,o)←qbp p j
  some ({x with kind:=7,ref:=a,args:=l},o)
 else if p.txt k=qcs then do
  let(a,j)←Ty p 1 (k+1)
  let(b,o)←Ty p 1 j
  some ({x with kind:=10,args:=[a],ref:=b},o)
 else Uz p x k
def qfv (p:cr)(x:cX)(k:Nat):Option (cX×Nat):=
 if p.txt k=qex then do
  let(s,j)←Ty p 1 (k+1)
  let(a,o)←Ty p 1 j
  let(b,C)←Ty p 1 o
  some ({x with kind:=6,ref:=s,args:=x.args++[a,b]},C)
 else if p.txt k=qdk then do
  let(s,j)←Ty p 1 (k+1)
  let(a,o)←Ty p 1 j
  some ({x with kind:=9,ref:=s,args:=x.args++[a]},o)
 else Yl p x k
def qby (p:cr)(k:Nat):Option (cX×Nat):=
 if p.is k 1=true then(if p.txt (k+1)=YA then qcc p {Va with dst:=p.txt k,Nj:=p.pos k} (k+1+1) else none)
 else qfv p {Va with Nj:=p.pos k} k
theorem qap {p:cr}{q k:Nat}{r:ByteArray×Nat}(h:Ty p q k=some r):p.is k q=true∧r=(p.txt k,k+1):=by
 unfold Ty at h;split at h;·rename_i h1;cases h;exact⟨h1,rfl⟩
 cases h
theorem qeb {p:cr}:∀ {f n k:Nat} {l j:List ByteArray} {k':Nat},qcx p f n k l=some (j,k')→j.length≤l.length+f
 |0,_,_,_,_,_,h=>by cases h
 |f+1,n,k,l,j,k',h=>by(
 obtain⟨_,_,o⟩:=qbZ h;split at o
 ·have I:=qeb o
  rw[iQ] at I;have C:[p.txt k].length=1:=rfl;omega
 injection o with C J;subst C;rw[iQ];have C:[p.txt k].length=1:=rfl;omega)
theorem qcv {p:cr}{k k':Nat}{l:List ByteArray}(h:qbp p k=some (l,k')):l.length≤7:=by
 obtain⟨_,j,o,_⟩:=qbB h;rcases o with ⟨_,rfl,_⟩|⟨_,o⟩;·exact Nat.zero_le _
 have:=qeb o;have e:([]:List ByteArray).length=0:=rfl;omega
theorem qeT (B pb o:Nat)(p:cr)(A:Option Addr)(C k m k':Nat)(x x':cX)(w:World)(h:PB w B pb p A C k m)(hx:Uh w B o x)(I:p.Ok)(hl:gz w)(ha:x.args=[])(hf:x.Nh=[])(hr:qcc p x k=some (x',k')):
 Calls prog 196 #[.pointer (some ⟨pb,0,none⟩),.pointer (some ⟨o,0,none⟩)] w (Ua B pb o p A C m k' x' w)∧x'.args.length≤1000∧x'.Nh.length≤1000:=by
 have h0:x.args.length≤2:=by rw[ha];decide
 have a8:x.Nh.length≤2:=by rw[hf];decide
 unfold qcc at hr;by_cases a1:XY (p.txt k)=true;·rw[ap a1] at hr;obtain⟨⟨a,k1⟩,h1,hr⟩:=Option.bind_eq_some_iff.1 hr;obtain⟨Y,e⟩:=qap h1;cases e;obtain⟨⟨b,k2⟩,h2,hr⟩:=Option.bind_eq_some_iff.1 hr;obtain⟨q2,e⟩:=qap h2;cases e;cases hr;exact⟨qjh B pb o p A C k m x w h hx I hl a1 Y q2 (by omega),by show(x.args++[_,_]).length≤_;rw[iQ];show _+2≤_;omega,by show x.Nh.length≤_;omega⟩
 rw[ae a1] at hr;have j:XY (p.txt k)=false:=by simpa using a1
 by_cases hw:p.txt k=qfZ;·rw[ap hw] at hr;obtain⟨⟨a,k1⟩,h1,hr⟩:=Option.bind_eq_some_iff.1 hr;obtain⟨Y,e⟩:=qap h1;cases e;obtain⟨⟨b,k2⟩,h2,hr⟩:=Option.bind_eq_some_iff.1 hr;obtain⟨q2,e⟩:=qap h2;cases e;cases hr;exact⟨pvc (fun g4 _=>g4) 4 B pb o p A C k m _ x _ w h hx I hl j (by rw[hw];decide) (fun _ _=>by rw[hw];rfl) (fun _ _ _ h _=>h) fun W g hg J R=>qcN B pb o g 4 p A C (k+1) m x W J R I hg Y q2,by show(1:Nat)≤1000;decide,by show x.Nh.length≤_;omega⟩
 rw[ae hw] at hr;clear hw;by_cases hw:p.txt k=qga;·rw[ap hw] at hr;obtain⟨⟨a,k1⟩,h1,hr⟩:=Option.bind_eq_some_iff.1 hr;obtain⟨Y,e⟩:=qap h1;cases e;obtain⟨⟨b,k2⟩,h2,hr⟩:=Option.bind_eq_some_iff.1 hr;obtain⟨q2,e⟩:=qap h2;cases e;cases hr;exact⟨pvc (fun _ g5=>g5) 5 B pb o p A C k m _ x _ w h hx I hl j (by rw[hw];decide) (fun _ _=>by rw[hw];rfl) (fun _ _ _ _ h=>h) fun W g hg J R=>qcN B pb o g 5 p A C (k+1) m x W J R I hg Y q2,by show(1:Nat)≤1000;decide,by show x.Nh.length≤_;omega⟩
 rw[ae hw] at hr;clear hw;by_cases hw:p.txt k=qew;·rw[ap hw] at hr;obtain⟨⟨a,k1⟩,h1,hr⟩:=Option.bind_eq_some_iff.1 hr;obtain⟨Y,e⟩:=qap h1;cases e;cases hr;exact⟨pvw 254 B pb o p A C k m _ x _ w h hx I hl j (by simp) (by rw[hw];decide) (fun _ _=>by rw[hw];rfl) fun W J R=>qeu B pb o p A C (k+1) m x W J R I Y,by show x.args.length≤_;omega,by show x.Nh.length≤_;omega⟩
 rw[ae hw] at hr;clear hw;by_cases hw:p.txt k=qfY;·rw[ap hw] at hr;obtain⟨⟨a,k1⟩,h1,hr⟩:=Option.bind_eq_some_iff.1 hr;obtain⟨Y,e⟩:=qap h1;cases e;obtain⟨⟨l,k2⟩,h2,hr⟩:=Option.bind_eq_some_iff.1 hr;cases hr;exact⟨pvw 255 B pb o p A C k m _ x _ w h hx I hl j (by simp) (by rw[hw];decide) (fun _ _=>by rw[hw];rfl) fun W J R=>qfu B pb o p A C (k+1) m _ x l W J R I Y h2,by have:=qcv h2;show l.length≤_;omega,by show x.Nh.length≤_;omega⟩
 rw[ae hw] at hr;clear hw;by_cases hw:p.txt k=qcs;·rw[ap hw] at hr;obtain⟨⟨a,k1⟩,h1,hr⟩:=Option.bind_eq_some_iff.1 hr;obtain⟨Y,e⟩:=qap h1;cases e;obtain⟨⟨b,k2⟩,h2,hr⟩:=Option.bind_eq_some_iff.1 hr;obtain⟨q2,e⟩:=qap h2;cases e;cases hr;exact⟨pvw 256 B pb o p A C k m _ x _ w h hx I hl j (by simp) (by rw[hw];decide) (fun _ _=>by rw[hw];rfl) fun W J R=>qfW B pb o p A C (k+1) m x W J R I Y q2,by show(1:Nat)≤1000;decide,by show x.Nh.length≤_;omega⟩
 rw[ae hw] at hr;clear hw;refine⟨?_,WT hr ha hf⟩;rcases TZ hr with ⟨hw,n,hq,hn,rfl,rfl⟩|⟨hw,hq,fr,ar,k2,a6,a7,rfl,rfl⟩;·exact pvw 253 B pb o p A C k m _ x _ w h hx I hl j (by simp) (by rw[hw];decide) (fun _ _=>by rw[hw];rfl) fun W J R=>qet B pb o p A C (k+1) m x W J R I n hq hn
 exact pvw 257 B pb o p A C k m _ x _ w h hx I hl j (by simp) (by rw[hw];decide) (fun _ _=>by rw[hw];rfl) fun W J R=>WW B pb o p A C (k+1) m k2 x fr ar W J R I hq (by rw[ha,hf];exact a6) a7 (by rw[ha];decide) (by rw[hf];decide)
def qhP (F:FuncId)(p:cr)(k k':Nat)(x x':cX):Prop:=
 ∀(B pb j:Nat) (A:Option Addr) (C m:Nat) (W:World),PB W B pb p A C (k+1) m→Uh W B j x→Calls prog F #[.pointer (some ⟨pb,0,none⟩),.pointer (some ⟨j,0,none⟩)] W (Ua B pb j p A C m k' x' W)
theorem qcO {p:cr}{x x':cX}{k k':Nat}(R:p.Ok)(ha:x.args=[])(hf:x.Nh=[])(hr:qfv p x k=some (x',k')):
 ∃F,(F=225∨F=226∨F=227∨F=228∨F=229)∧TH UN (p.txt k)=some (.func (.func F) #[] #[])∧p.txt k≠gR∧x'.args.length≤1000∧x'.Nh.length≤1000∧qhP F p k k' x x':=by
 have h0:x.args.length≤2:=by rw[ha];decide
 have a1:x.Nh.length≤2:=by rw[hf];decide
 unfold qfv at hr;by_cases hw:p.txt k=qex;·rw[ap hw] at hr;obtain⟨⟨s,k1⟩,h1,hr⟩:=Option.bind_eq_some_iff.1 hr;obtain⟨j,e⟩:=qap h1;cases e;obtain⟨⟨a,k2⟩,Y,hr⟩:=Option.bind_eq_some_iff.1 hr;obtain⟨q2,e⟩:=qap Y;cases e;obtain⟨⟨b,k3⟩,h3,hr⟩:=Option.bind_eq_some_iff.1 hr;obtain⟨q3,e⟩:=qap h3;cases e;cases hr;exact⟨_,.inl rfl,by rw[hw];rfl,by rw[hw];decide,by show(x.args++[_,_]).length≤_;rw[iQ];show _+2≤_;omega,by show x.Nh.length≤_;omega,fun B pb o A C m W I J=>qev B pb o p A C (k+1) m x W I J R j q2 q3 (by omega)⟩
 rw[ae hw] at hr;clear hw;by_cases hw:p.txt k=qdk;·rw[ap hw] at hr;obtain⟨⟨s,k1⟩,h1,hr⟩:=Option.bind_eq_some_iff.1 hr;obtain⟨j,e⟩:=qap h1;cases e;obtain⟨⟨a,k2⟩,Y,hr⟩:=Option.bind_eq_some_iff.1 hr;obtain⟨q2,e⟩:=qap Y;cases e;cases hr;exact⟨_,.inr (.inl rfl),by rw[hw];rfl,by rw[hw];decide,by show(x.args++[_]).length≤_;rw[iQ];show _+1≤_;omega,by show x.Nh.length≤_;omega,fun B pb o A C m W I J=>qdJ B pb o p A C (k+1) m x W I J R j q2 (by omega)⟩
 rw[ae hw] at hr;clear hw;unfold Yl at hr;by_cases hw:p.txt k=XX;·rw[ap hw] at hr;obtain⟨⟨s,k1⟩,h1,hr⟩:=Option.bind_eq_some_iff.1 hr;obtain⟨j,e⟩:=qap h1;cases e;cases hr;exact⟨_,.inr (.inr (.inl rfl)),by rw[hw];rfl,by rw[hw];decide,by show x.args.length≤_;omega,by show x.Nh.length≤_;omega,fun B pb o A C m W I J=>WH B pb o p A C (k+1) m x W I J R j⟩
 rw[ae hw] at hr;clear hw;by_cases hw:p.txt k=Ww;·rw[ap hw] at hr;obtain⟨⟨a,k1⟩,h1,hr⟩:=Option.bind_eq_some_iff.1 hr;obtain⟨j,e⟩:=qap h1;cases e;obtain⟨⟨s,k2⟩,Y,hr⟩:=Option.bind_eq_some_iff.1 hr;obtain⟨q2,e⟩:=qap Y;cases e;obtain⟨⟨t,k3⟩,h3,hr⟩:=Option.bind_eq_some_iff.1 hr;obtain⟨q3,e⟩:=qap h3;cases e;cases hr;exact⟨_,.inr (.inr (.inr (.inl rfl))),by rw[hw];rfl,by rw[hw];decide,by show(1:Nat)≤1000;decide,by show x.Nh.length≤_;omega,fun B pb o A C m W I J=>by have:=VC B pb o p A C (k+1) m x W I J R j q2 q3 (by omega);rw[ha] at this;exact this⟩
 rw[ae hw] at hr;clear hw;by_cases hw:p.txt k=Wx;·rw[ap hw] at hr;obtain⟨⟨a,k1⟩,h1,hr⟩:=Option.bind_eq_some_iff.1 hr;obtain⟨j,e⟩:=qap h1;cases e;cases hr;exact⟨_,.inr (.inr (.inr (.inr rfl))),by rw[hw];rfl,by rw[hw];decide,by show(1:Nat)≤1000;decide,by show x.Nh.length≤_;omega,fun B pb o A C m W I J=>by have:=WX B pb o p A C (k+1) m x W I J R j (by omega);rw[ha] at this;exact this⟩
 rw[ae hw] at hr;cases hr
end Go.Proofs.YtgdlhckhpolnnaaGreatDoor
