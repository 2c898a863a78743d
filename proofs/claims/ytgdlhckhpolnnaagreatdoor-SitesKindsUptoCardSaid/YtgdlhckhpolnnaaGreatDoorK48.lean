/- Part 49 of the proof (its last part says what is proved). No condition. -/
import Derived.ProofKit
import Derived.OpenShut
import Derived.Test.YtgdlhckhpolnnaaGreatDoorK47
namespace Go.Proofs.YtgdlhckhpolnnaaGreatDoor
set_option maxRecDepth 100000
set_option maxHeartbeats 8000000
open Go.RowKit Go.Proofs.Tryz
namespace Q
theorem qdo {L:List qaJ}(h:L.Pairwise SLt){i j:Nat}{a b:qaJ}(C:L[i]? =some a)(I:L[j]? =some b)(o:i<j):SLt a b:=by obtain⟨J,rfl⟩:=lS.1 C;obtain⟨R,rfl⟩:=lS.1 I;exact List.pairwise_iff_getElem.1 h i j J R o
theorem qiI (p:aH)(c:aE)(hI:qbf p c):
 VFL LM prog 6 [.agg (qbn p),.agg (qaI c)] (·=.s (.bool true)):=by
 refine qbX [4] func6 rfl Tryz.results6 ntmps6 rfl fun g w hL hk=>?_;have fin:∀ {e:Exit} {T:VT} {H:List HO},e=.ret→Oo T 4=some (.s (.bool true))→qcE [4] (·=.s (.bool true)) e T H:=fun he e1=>⟨.inl he,[.s (.bool true)],_,by simp[e1],Ros.cons (.lt _ (.s _)) Ros.nil,by simp[qeF]⟩;refine st ?_;refine qid (fun r=>∃b:Bool,r=.bool b∧(b=true→MH c)) (fun g' w' vs hl hh hv=>qhX hI hh hv) ?_;rintro _ ⟨few,rfl,_⟩;refine st ?_;refine qbr (fun h=>?_) fun h=>?_
 ·refine st ?_
  exact qaw (fin rfl rfl)
 refine st ?_;obtain⟨er,a6⟩:=qim p c hI;obtain⟨L,J⟩:=eQ (qbe p c);rw[←J] at a6;have b0:∀s∈L,qaL p c∧s∈qaF c:=fun s I=>by
  rw[J] at I;unfold qbe at I;by_cases hr:qaL p c;·rw[ap hr] at I;exact⟨hr,I⟩
  rw[ae hr] at I;cases I
 have o:L.Pairwise SLt:=by
  rw[J];unfold qbe;split;·exact qdn c
  exact List.Pairwise.nil
 have hlen:L.length≤140737488355328:=by
  rw[J];unfold qbe;split;·rename_i hr;have:=qbA hr;omega
  simp
 clear J;refine qaP (fun g' w' hle=>a6 w' (LM.keep hL (hk g' w' hle)).1) ?_ (hl:=al1 (.agg _ (qas 0 p)) (al1 (.agg _ (qar 0 c)) al0));refine st ?_;refine qbM (fun k=>k≤L.length) (fun k=>L.length-k) (fun k=>[(7,.s (.int .i64 k)),(5,.row 5 40 (L.map qaH) none),(3,.ptr 1 0),(2,.ptr 0 0)]) (fun _=>[.cells 26 (qbn p),.cells 30 (qaI c)]) 0 (Nat.zero_le _) ⟨rfl,rfl,rfl,rfl,trivial⟩ (.inl rfl) ?_;intro k b2;refine st ?_;refine qbT (fun h=>?_) fun h=>?_
 case refine_2=>refine qbL (st ?_);refine qaP (fun g' w' hle=>qgN w' (LM.keep hL (hk g' w' hle))) ?_;refine st ?_;exact qaw (fin rfl rfl)
 obtain⟨s,I⟩:=eG h;obtain⟨hr,b1⟩:=b0 s (mG I);obtain⟨b,l,x,hb,hl,hx,h0,h3,h4⟩:=qfm.1 b1;have b3:=(lS.1 hb).1;have b4:=(lS.1 hl).1;have b5:=(lS.1 hx).1;refine st ?_;refine qaK 62 ?_;refine st ?_;refine qaq (fun h1=>?_) fun h1=>?_;·exact absurd h1 (by omega)
 refine st ?_;refine qaq (fun h2=>?_) fun h2=>?_;·exact absurd h2 (by omega)
 refine st ?_;refine qaq (fun h5=>?_) fun h5=>?_;·exact absurd h5 (by omega)
 refine st ?_;have a7:VFL gz prog 14 [.agg (qbn p),.agg (qaI c),.s (.int .i64 s.fn),.s (.int .i64 s.block),.s (.int .i64 s.Nj)] (·=.s (.bool false)):=by have h:=qgq p c s.fn s.block s.Nj hI (fun h b hb=>qbF h.1 hb) qbA;rwa [au fun⟨_,_,_,_,_,_,_,_,_,h⟩=>by simpa [qcr] using h s b1] at h
 refine qaP (fun g' w' hle=>a7 w' (LM.keep hL (hk g' w' hle)).1) ?_ (hl:=al1 (.agg _ (qas 0 p)) (al1 (.agg _ (qar 0 c)) (al1 (.s _) (al1 (.s _) (al1 (.s _) al0)))));refine st ?_;refine qaK 16 ?_;refine st ?_;obtain⟨a1,b6⟩:=qfz h0;rw[←h3] at a1;clear h3 h4 h0;refine qaq (fun k2=>?_) fun k2=>?_;·(
 refine st ?_;refine qaq (fun k4=>?_) fun k4=>?_;·(
 have a8:s.kind=20:=a1.1 ⟨by omega,.inl (by omega)⟩;refine st ?_;refine qaK 58 ?_;refine st ?_;refine qaq (fun j0=>?_) fun j0=>?_;·(
 obtain⟨R,C⟩:∃R,L[((k:Int)-1).toNat]? =some R:=⟨_,lG (by omega)⟩;have j:=qdo o C I (by omega);refine st ?_;refine qaq (fun j1=>?_) fun j1=>?_
 ·refine st ?_
  exact⟨k+1,by omega,by omega,⟨rfl,rfl,rfl,rfl,trivial⟩,.inr ⟨_,rfl,Nat.zero_le _,al1 (.s _) (al1 (.row _ _ _ _ (qau _ _) nofun) (al1 (.ptr _ _ (by simp)) (al1 (.ptr _ _ (by simp)) al0))),al1 (qas _ p) (al1 (qar _ c) al0)⟩⟩
 refine st ?_;refine qaq (fun j2=>?_) fun j2=>?_;·(
 refine st ?_;refine qaq (fun j3=>?_) fun j3=>?_
 ·refine st ?_
  exact⟨k+1,by omega,by omega,⟨rfl,rfl,rfl,rfl,trivial⟩,.inr ⟨_,rfl,Nat.zero_le _,al1 (.s _) (al1 (.row _ _ _ _ (qau _ _) nofun) (al1 (.ptr _ _ (by simp)) (al1 (.ptr _ _ (by simp)) al0))),al1 (qas _ p) (al1 (qar _ c) al0)⟩⟩
 refine st ?_;refine qaq (fun j4=>?_) fun j4=>?_
 ·refine st ?_;refine qbr (fun Y=>?_) fun Y=>?_;·exact absurd j (by unfold SLt;simp at Y;omega)
  refine st ?_;exact⟨k+1,by omega,by omega,⟨rfl,rfl,rfl,rfl,trivial⟩,.inr ⟨_,rfl,Nat.zero_le _,al1 (.s _) (al1 (.row _ _ _ _ (qau _ _) nofun) (al1 (.ptr _ _ (by simp)) (al1 (.ptr _ _ (by simp)) al0))),al1 (qas _ p) (al1 (qar _ c) al0)⟩⟩
 exact absurd j (by unfold SLt;omega))
 exact absurd j (by unfold SLt;omega))
 refine st ?_;exact⟨k+1,by omega,by omega,⟨rfl,rfl,rfl,rfl,trivial⟩,.inr ⟨_,rfl,Nat.zero_le _,al1 (.s _) (al1 (.row _ _ _ _ (qau _ _) nofun) (al1 (.ptr _ _ (by simp)) (al1 (.ptr _ _ (by simp)) al0))),al1 (qas _ p) (al1 (qar _ c) al0)⟩⟩)
 have a8:s.kind=20:=a1.1 ⟨by omega,by omega⟩;refine st ?_;refine qbz (fun h7=>?_) fun h7=>?_;·exact absurd h7 (by simp;omega)
 refine st ?_;refine qaK 58 ?_;refine st ?_;refine qaq (fun j0=>?_) fun j0=>?_;·(
 obtain⟨R,C⟩:∃R,L[((k:Int)-1).toNat]? =some R:=⟨_,lG (by omega)⟩;have j:=qdo o C I (by omega);refine st ?_;refine qaq (fun j1=>?_) fun j1=>?_
 ·refine st ?_
  exact⟨k+1,by omega,by omega,⟨rfl,rfl,rfl,rfl,trivial⟩,.inr ⟨_,rfl,Nat.zero_le _,al1 (.s _) (al1 (.row _ _ _ _ (qau _ _) nofun) (al1 (.ptr _ _ (by simp)) (al1 (.ptr _ _ (by simp)) al0))),al1 (qas _ p) (al1 (qar _ c) al0)⟩⟩
 refine st ?_;refine qaq (fun j2=>?_) fun j2=>?_;·(
 refine st ?_;refine qaq (fun j3=>?_) fun j3=>?_
 ·refine st ?_
  exact⟨k+1,by omega,by omega,⟨rfl,rfl,rfl,rfl,trivial⟩,.inr ⟨_,rfl,Nat.zero_le _,al1 (.s _) (al1 (.row _ _ _ _ (qau _ _) nofun) (al1 (.ptr _ _ (by simp)) (al1 (.ptr _ _ (by simp)) al0))),al1 (qas _ p) (al1 (qar _ c) al0)⟩⟩
 refine st ?_;refine qaq (fun j4=>?_) fun j4=>?_
 ·refine st ?_;refine qbr (fun Y=>?_) fun Y=>?_;·exact absurd j (by unfold SLt;simp at Y;omega)
  refine st ?_;exact⟨k+1,by omega,by omega,⟨rfl,rfl,rfl,rfl,trivial⟩,.inr ⟨_,rfl,Nat.zero_le _,al1 (.s _) (al1 (.row _ _ _ _ (qau _ _) nofun) (al1 (.ptr _ _ (by simp)) (al1 (.ptr _ _ (by simp)) al0))),al1 (qas _ p) (al1 (qar _ c) al0)⟩⟩
 exact absurd j (by unfold SLt;omega))
 exact absurd j (by unfold SLt;omega))
 refine st ?_;exact⟨k+1,by omega,by omega,⟨rfl,rfl,rfl,rfl,trivial⟩,.inr ⟨_,rfl,Nat.zero_le _,al1 (.s _) (al1 (.row _ _ _ _ (qau _ _) nofun) (al1 (.ptr _ _ (by simp)) (al1 (.ptr _ _ (by simp)) al0))),al1 (qas _ p) (al1 (qar _ c) al0)⟩⟩)
 have a8:¬s.kind=20:=fun h=>k2 (by have:=(a1.2 h).1;omega);refine st ?_;refine qbz (fun h7=>?_) fun h7=>?_;·exact absurd h7 (by simp[a8])
 refine st ?_;refine qbz (fun h8=>?_) fun h8=>?_;·(
 refine st ?_;refine qbr (fun h9=>?_) fun h9=>?_;·exact absurd h9 (by simp at h8;simp;omega)
 refine st ?_;refine qaK 58 ?_;refine st ?_;refine qaq (fun j0=>?_) fun j0=>?_;·(
 obtain⟨R,C⟩:∃R,L[((k:Int)-1).toNat]? =some R:=⟨_,lG (by omega)⟩;have j:=qdo o C I (by omega);refine st ?_;refine qaq (fun j1=>?_) fun j1=>?_
 ·refine st ?_
  exact⟨k+1,by omega,by omega,⟨rfl,rfl,rfl,rfl,trivial⟩,.inr ⟨_,rfl,Nat.zero_le _,al1 (.s _) (al1 (.row _ _ _ _ (qau _ _) nofun) (al1 (.ptr _ _ (by simp)) (al1 (.ptr _ _ (by simp)) al0))),al1 (qas _ p) (al1 (qar _ c) al0)⟩⟩
 refine st ?_;refine qaq (fun j2=>?_) fun j2=>?_;·(
 refine st ?_;refine qaq (fun j3=>?_) fun j3=>?_
 ·refine st ?_
  exact⟨k+1,by omega,by omega,⟨rfl,rfl,rfl,rfl,trivial⟩,.inr ⟨_,rfl,Nat.zero_le _,al1 (.s _) (al1 (.row _ _ _ _ (qau _ _) nofun) (al1 (.ptr _ _ (by simp)) (al1 (.ptr _ _ (by simp)) al0))),al1 (qas _ p) (al1 (qar _ c) al0)⟩⟩
 refine st ?_;refine qaq (fun j4=>?_) fun j4=>?_
 ·refine st ?_;refine qbr (fun Y=>?_) fun Y=>?_;·exact absurd j (by unfold SLt;simp at Y;omega)
  refine st ?_;exact⟨k+1,by omega,by omega,⟨rfl,rfl,rfl,rfl,trivial⟩,.inr ⟨_,rfl,Nat.zero_le _,al1 (.s _) (al1 (.row _ _ _ _ (qau _ _) nofun) (al1 (.ptr _ _ (by simp)) (al1 (.ptr _ _ (by simp)) al0))),al1 (qas _ p) (al1 (qar _ c) al0)⟩⟩
 exact absurd j (by unfold SLt;omega))
 exact absurd j (by unfold SLt;omega))
 refine st ?_;exact⟨k+1,by omega,by omega,⟨rfl,rfl,rfl,rfl,trivial⟩,.inr ⟨_,rfl,Nat.zero_le _,al1 (.s _) (al1 (.row _ _ _ _ (qau _ _) nofun) (al1 (.ptr _ _ (by simp)) (al1 (.ptr _ _ (by simp)) al0))),al1 (qas _ p) (al1 (qar _ c) al0)⟩⟩)
 refine st ?_;refine qaK 58 ?_;refine st ?_;refine qaq (fun j0=>?_) fun j0=>?_;·(
 obtain⟨R,C⟩:∃R,L[((k:Int)-1).toNat]? =some R:=⟨_,lG (by omega)⟩;have j:=qdo o C I (by omega);refine st ?_;refine qaq (fun j1=>?_) fun j1=>?_
 ·refine st ?_
  exact⟨k+1,by omega,by omega,⟨rfl,rfl,rfl,rfl,trivial⟩,.inr ⟨_,rfl,Nat.zero_le _,al1 (.s _) (al1 (.row _ _ _ _ (qau _ _) nofun) (al1 (.ptr _ _ (by simp)) (al1 (.ptr _ _ (by simp)) al0))),al1 (qas _ p) (al1 (qar _ c) al0)⟩⟩
 refine st ?_;refine qaq (fun j2=>?_) fun j2=>?_;·(
 refine st ?_;refine qaq (fun j3=>?_) fun j3=>?_
 ·refine st ?_
  exact⟨k+1,by omega,by omega,⟨rfl,rfl,rfl,rfl,trivial⟩,.inr ⟨_,rfl,Nat.zero_le _,al1 (.s _) (al1 (.row _ _ _ _ (qau _ _) nofun) (al1 (.ptr _ _ (by simp)) (al1 (.ptr _ _ (by simp)) al0))),al1 (qas _ p) (al1 (qar _ c) al0)⟩⟩
 refine st ?_;refine qaq (fun j4=>?_) fun j4=>?_
 ·refine st ?_;refine qbr (fun Y=>?_) fun Y=>?_;·exact absurd j (by unfold SLt;simp at Y;omega)
  refine st ?_;exact⟨k+1,by omega,by omega,⟨rfl,rfl,rfl,rfl,trivial⟩,.inr ⟨_,rfl,Nat.zero_le _,al1 (.s _) (al1 (.row _ _ _ _ (qau _ _) nofun) (al1 (.ptr _ _ (by simp)) (al1 (.ptr _ _ (by simp)) al0))),al1 (qas _ p) (al1 (qar _ c) al0)⟩⟩
 exact absurd j (by unfold SLt;omega))
 exact absurd j (by unfold SLt;omega))
 refine st ?_;exact⟨k+1,by omega,by omega,⟨rfl,rfl,rfl,rfl,trivial⟩,.inr ⟨_,rfl,Nat.zero_le _,al1 (.s _) (al1 (.row _ _ _ _ (qau _ _) nofun) (al1 (.ptr _ _ (by simp)) (al1 (.ptr _ _ (by simp)) al0))),al1 (qas _ p) (al1 (qar _ c) al0)⟩⟩
end Q






def In (w:World)(e:Ending)(w':World):Prop:=e=.returned (.bool true)∧aa All w w'
theorem qfl (S:Nat→Prop)(o C:Value)(p:aH)(c:aE)(w:World)(Y:dJ S w o p)(hc:cQ S w C c)(hl:gz w)(hm:Ws w)(hS:∀b,S b→b<w.heap.size)(I:kj p)(J:lY c)(j:rK c):
 Calls prog 6 #[o,C] w (In w):=by
 have hI:Q.qbf p c:=⟨Q.qgi Y,Q.qfg hc,I,J,Dr names j⟩;refine(Q.qiI p c hI w ⟨hl,hm⟩ (Q.Gh.top w) [o,C] (Q.HR.top w) (Q.VRs.cons (Q.qiv (fun b R _=>hS b R) Y) (Q.VRs.cons (Q.qhG (fun b R _=>hS b R) hc) Q.VRs.nil))).mono ?_;rintro e w' ⟨v,x,g',H',rfl,⟨rfl,rfl⟩,hx,hle,_⟩;cases hx.of_s;exact⟨rfl,hle.all (Q.HR.top w).none⟩
section
section
variable {H:Type} {enc:TypeId×Value→H} {w:World}
def jm (w:World)(b:Nat):Prop:=b<w.heap.size
def fB {α:Type}(enc:TypeId×Value→H)(w:World)(t:TypeId)(E:cO α)(Q:α→Prop):Prop:=
 ∀fuel cs d ps,DataW.trod enc prog w 0 (fun _=>true) true fuel t cs=some (d,ps)→Rows.uptoBulk d≤1048576→∃x,E (jm w) w cs x∧Q x
theorem uJ {d:DataW H}{l:List (DataW H)}(h:d∈l):Rows.uptoBulk d≤Rows.uptoBulkAll l:=by
 induction l with
 |nil=>cases h
 |cons x r j=>
  simp only[Rows.uptoBulkAll];cases fX.1 h with
  |inl e=>subst e;omega
  |inr e=>have:=j e;omega
theorem Fc (d:DataW H):1≤Rows.uptoBulk d:=by
 cases d with
 |lit l=>cases l<;>simp[Rows.uptoBulk]
 |nil=>simp[Rows.uptoBulk]
 |ptr d=>simp[Rows.uptoBulk]
 |slice elems spare=>simp[Rows.uptoBulk]
 |agg qat=>simp[Rows.uptoBulk]
 |iface t d=>simp[Rows.uptoBulk]
 |map entries=>simp[Rows.uptoBulk]
 |held h=>simp[Rows.uptoBulk]
theorem Fb (l:List (DataW H)):l.length≤Rows.uptoBulkAll l:=by
 induction l with
 |nil=>simp[Rows.uptoBulkAll]
 |cons x r j=>have:=Fc x;simp only[Rows.uptoBulkAll,kI];omega
theorem Cc {α:Type}{P:Nat→α→Prop}:∀ {n:Nat},(∀i,i<n→∃x,P i x)→∃l:List α,l.length=n∧∀(i:Nat) x,l[i]? =some x→P i x
 |0,_=>⟨[],rfl,fun i x h=>by simp at h⟩
 |n+1,h=>by(
 obtain⟨l,o,C⟩:=Cc (n:=n) fun i hi=>h i (by omega);obtain⟨x,I⟩:=h n (by omega);refine⟨l++[x],by simp[o],fun i y j=>?_⟩;by_cases hi:i<n
 ·rw[ma (by omega)] at j
  exact C i y j
 rw[kH (by omega)] at j;have J:i-l.length=0:=by have:=(lS.1 j).1;simp at this;omega
 rw[J] at j;cases j;obtain rfl:i=n:=by omega
 exact I)
theorem nI (b o r:Nat):(⟨b,o,none⟩:Addr).add r=⟨b,o+r,none⟩:=by
 unfold Addr.add;split;·rename_i h;subst h;rfl
 rfl
theorem fi {α:Type}{t e:TypeId}{n bw:Nat}{E:cO α}{Q:α→Prop}(ht:prog.underlying t=some (.slice e))(hc:prog.cellsOf e=n)(hn:0<n)(a8:bw≤1000000)(o:fB enc w e E Q):
 fB enc w t (eT (rx n bw E)) fun l=>l.length≤1048576∧∀x∈l,Q x:=by
 intro fuel cs d ps h hb;rcases DataW.trod_slice ht h with ⟨rfl,J⟩|⟨a,len,cap,elems,rest,n',rfl,rfl,J,_,hl,hm,b4,Y,_,_⟩;·exact⟨[],⟨_,rfl,rx.nil⟩,by simp,by simp⟩
 injection J with hd _;subst hd;rw[hc] at Y;have b5:Rows.uptoBulkAll (elems.map (·.1))+1≤1048576:=by simp only[Rows.uptoBulk] at hb;omega
 have hlen:=Fb (elems.map (·.1));rw[ce] at hlen;obtain⟨l,b0,hP⟩:=Cc (n:=len) (P:=fun i x=>(∃ci,w.cells? 0 (a.add (i*n)) n=some ci∧E (jm w) w ci x)∧Q x) fun i hi=>by(
 have h1:=Y i hi;have h2:i<elems.length:=by omega
 rw[lG h2] at h1;obtain⟨ci,C,b1⟩:=Option.bind_eq_some_iff.1 h1;have b6:=uJ (d:=elems[i].1) (l:=elems.map (·.1)) (dr.2 ⟨elems[i],eL h2,rfl⟩);obtain⟨x,J,hq⟩:=o n' ci elems[i].1 elems[i].2 b1 (by omega);exact⟨x,⟨ci,C,J⟩,hq⟩)
 have b2:l.length*bw≤1048576*1000000:=Nat.mul_le_mul (by omega) a8;refine⟨l,⟨_,rfl,some a,cap,by rw[b0],by omega,hm,by omega,fun i x J=>?_⟩,by omega,fun x J=>?_⟩
 ·obtain⟨⟨ci,C,hE⟩,_⟩:=hP i x J;have hi:=(lS.1 J).1;obtain⟨⟨c0,R,_⟩,_⟩:=hP 0 _ (lG (show 0<l.length by omega));unfold World.cells? at C R;rw[ap (Nat.zero_le _)] at C R;obtain⟨b,off,sp⟩:=a;obtain rfl:sp=none:=by obtain⟨c,_,h0⟩:=Lib.mapM_at R 0 0 (by rw[ln hn]);have:=World.cell?_spot h0;simpa [Addr.add] using this
  have a1:=Lib.mapM_length C;rw[List.length_range] at a1;have a6:b<w.heap.size:=by obtain⟨c,_,h0⟩:=Lib.mapM_at R 0 0 (by rw[ln hn]);have:=jy w _ h0;rw[nI,nI] at this;exact this
  refine⟨b,off,ci,rfl,a6,a1,fun j c hj=>?_,hE⟩;have b3:j<n:=by have:=(lS.1 hj).1;omega
  obtain⟨c',a7,I⟩:=Lib.mapM_at C j j (by rw[ln b3]);rw[hj] at a7;cases a7;rw[nI,nI] at I;exact I
 obtain⟨i,hi⟩:=cY.1 J;exact(hP i x hi).2
theorem pR {α:Type}{t:TypeId}{bw:Nat}{E:bT α}{Q:List α→Prop}(h:fB enc w t (eT (rx 1 bw (eT E))) Q):fB enc w t (eT (Sl bw E)) Q:=by intro fuel cs d ps j o;obtain⟨x,⟨v,e,C⟩,I⟩:=h fuel cs d ps j o;exact⟨x,⟨v,e,jT C⟩,I⟩
theorem bm {α:Type}{t j:TypeId}{Y:Array Field}{m off:Nat}{E:cO α}{Q:α→Prop}(ht:prog.underlying t=some (.struct Y)){fuel:Nat}{cs:List Value}{d:DataW H}{ps:List MemPlace}
 (h:DataW.trod enc prog w 0 (fun _=>true) true fuel t cs=some (d,ps)) (hb:Rows.uptoBulk d≤1048576) (i:Nat) (f:Field) (hf:Y[i]? =some f) (C:f.type=j) (I:f.offset=off) (hm:prog.cellsOf j=m) (o:fB enc w j E Q):∃x,E (jm w) w ((cs.drop off).take m) x∧Q x:=by
 obtain⟨xs,n,rfl,hx,_,J,R⟩:=DataW.trod_struct ht h;injection hx with hd _;subst hd;have h1:=R i f hf;have hi:i<xs.length:=by rw[J];exact(mV.1 hf).1
 rw[lG hi,C,I,hm] at h1;have a1:=uJ (d:=xs[i].1) (l:=xs.map (·.1)) (dr.2 ⟨xs[i],eL hi,rfl⟩);simp only[Rows.uptoBulk] at hb;exact o n _ xs[i].1 xs[i].2 h1 (by omega)
theorem jV {t:TypeId}{j:Array Field}{m:Nat}(o:prog.underlying t=some (.struct j))(hm:prog.cellsOf t=m){fuel:Nat}{cs:List Value}{x:DataW H×List MemPlace}(h:DataW.trod enc prog w 0 (fun _=>true) true fuel t cs=some x):cs.length=m:=by obtain⟨_,_,_,_,hl,_⟩:=DataW.trod_struct o h;rw[hl,hm]
theorem mA:prog.cellsOf 3=1:=by kernel_rfl
theorem Mg:prog.cellsOf 2=1:=by kernel_rfl
theorem KS:prog.cellsOf 5=1:=by kernel_rfl
theorem Ml:prog.cellsOf 163=1:=by kernel_rfl
theorem Fi:prog.cellsOf 9=1:=by kernel_rfl
theorem Ff:prog.cellsOf 226=2:=by kernel_rfl
theorem Fe:prog.cellsOf 52=2:=by kernel_rfl
theorem Mh:prog.cellsOf 56=9:=by kernel_rfl
theorem Mj:prog.cellsOf 43=1:=by kernel_rfl
theorem Mi:prog.cellsOf 40=1:=by kernel_rfl
theorem Fd:prog.cellsOf 42=3:=by kernel_rfl
theorem KN:prog.cellsOf 28=1:=by kernel_rfl
theorem KO:prog.cellsOf 27=1:=by kernel_rfl
theorem Fh:prog.cellsOf 54=1:=by kernel_rfl
theorem KQ:prog.cellsOf 22=1:=by kernel_rfl
theorem KR:prog.cellsOf 23=1:=by kernel_rfl
theorem Fg:prog.cellsOf 24=1:=by kernel_rfl
theorem Mk:prog.cellsOf 26=5:=by kernel_rfl
theorem KP:prog.cellsOf 30=3:=by kernel_rfl
theorem mB:fB enc w 3 (eT rQ) fun n=>(Lit.int .i64 n).wf=true:=fun fuel cs d ps h _=>by obtain⟨n,rfl,_,hw⟩:=DataW.trod_int underlying3 h;exact⟨n,⟨_,rfl,rfl,hw⟩,hw⟩
theorem Mw:fB enc w 2 (eT rQ) fun n=>(Lit.int .i64 n).wf=true:=fun fuel cs d ps h _=>by obtain⟨n,rfl,_,hw⟩:=DataW.trod_int underlying2 h;exact⟨n,⟨_,rfl,rfl,hw⟩,hw⟩
def MT:cO Nat:=fun _ _ cs n=>cs=[.int .u8 n]
theorem MA:fB enc w 5 MT fun n=>n<256:=fun fuel cs d ps h _=>by obtain⟨n,rfl,_,hw⟩:=DataW.trod_int underlying5 h;obtain⟨j,o⟩:=bounds_u8 hw;exact⟨n.toNat,by unfold MT;rw[Int.toNat_of_nonneg j],by omega⟩
theorem Kn:fB enc w 9 (eT EQ) fun s=>s.size≤1048576:=fun fuel cs d ps h j=>by obtain⟨s,rfl,o,_⟩:=DataW.trod_string underlying9 h;injection o with C _;subst C;simp only[Rows.uptoBulk,Array.length_toList] at j;exact⟨s,⟨_,rfl,rfl⟩,by show s.data.size≤_;omega⟩
theorem Mz:fB enc w 163 (eT Cz) fun _=>True:=fun fuel cs d ps h _=>by obtain⟨n,rfl,_,hw⟩:=DataW.trod_int underlying163 h;obtain⟨j,o⟩:=bounds_u64 hw;refine⟨BitVec.ofNat 64 n.toNat,⟨_,rfl,?_⟩,trivial⟩;show Value.int .u64 n=U (BitVec.ofNat 64 n.toNat);unfold U;rw[BitVec.toNat_ofNat,Nat.mod_eq_of_lt (by omega),Int.toNat_of_nonneg j]
theorem Gr:fB enc w 54 (eT aK) fun l=>l.length≤1048576∧∀x∈l,(Lit.int .i64 x).wf=true:=pR (fi underlying54 mA (by decide) (by decide) mB)
theorem Ln:fB enc w 22 (eT gB) fun l=>l.length≤1048576∧∀s∈l,s.size≤1048576:=pR (fi underlying22 Fi (by decide) (by decide) Kn)
theorem Lo:fB enc w 23 (eT nZ) fun l=>l.length≤1048576∧∀s∈l,True:=pR (fi underlying23 Ml (by decide) (by decide) Mz)
theorem Ms {cs:List Value}(h:cs.length=2):∃a b,cs=[a,b]:=by
 match cs,h with
 | [a,b],_=>exact⟨a,b,rfl⟩
theorem Mt {cs:List Value}(h:cs.length=3):∃a b c,cs=[a,b,c]:=by
 match cs,h with
 | [a,b,c],_=>exact⟨a,b,c,rfl⟩
theorem MO {cs:List Value}(h:cs.length=5):∃a b c d e,cs=[a,b,c,d,e]:=by
 match cs,h with
 | [a,b,c,d,e],_=>exact⟨a,b,c,d,e,rfl⟩
theorem MP {cs:List Value}(h:cs.length=9):∃a b c d e f g i j,cs=[a,b,c,d,e,f,g,i,j]:=by
 match cs,h with
 | [a,b,c,d,e,f,g,i,j],_=>exact⟨a,b,c,d,e,f,g,i,j,rfl⟩
theorem el {α:Type}{E:bT α}{c:Value}{x:α}(h:eT E (jm w) w [c] x):E (jm w) w c x:=by obtain⟨v,e,h⟩:=h;cases e;exact h
theorem Lm:fB enc w 226 uy fun x=>x.1.size≤1048576:=fun fuel cs d ps h j=>by obtain⟨a,b,rfl⟩:=Ms (jV underlying226 Ff h);obtain⟨s,o,C⟩:=bm underlying226 h j 0 _ rfl rfl rfl Fi Kn;obtain⟨n,I,J⟩:=bm underlying226 h j 1 _ rfl rfl rfl mA mB;have R:a=.string s:=el (c:=a) o;have Y:b=.int .i64 n:=(el (c:=b) I).1;subst R;subst Y;exact⟨(s,n),⟨rfl,J⟩,C⟩
theorem Ci:fB enc w 24 (eT kh) fun l=>l.length≤1048576∧∀x∈l,x.1.size≤1048576:=fi underlying24 Ff (by decide) (by decide) Lm
theorem gC {n:Int}(h:(Lit.int .i64 n).wf=true):aV n:=bounds_i64 h
theorem Lk:fB enc w 52 rI fun _=>True:=fun fuel cs d ps h j=>by obtain⟨a,b,rfl⟩:=Ms (jV underlying52 Fe h);obtain⟨m,o,C⟩:=bm underlying52 h j 0 _ rfl rfl rfl mA mB;obtain⟨n,I,J⟩:=bm underlying52 h j 1 _ rfl rfl rfl mA mB;have R:a=.int .i64 m:=(el (c:=a) o).1;have Y:b=.int .i64 n:=(el (c:=b) I).1;subst R;subst Y;exact⟨(m,n),⟨rfl,gC C,gC J⟩,trivial⟩
theorem MQ:fB enc w 56 KD fun x=>Cv x∧iM x:=fun fuel cs d ps h j=>by obtain⟨c0,c1,c2,c3,J,o,C,R,Y,rfl⟩:=MP (jV underlying56 Mh h);obtain⟨k,h0,q0⟩:=bm underlying56 h j 0 _ rfl rfl rfl KS MA;obtain⟨op,h1,q1⟩:=bm underlying56 h j 1 _ rfl rfl rfl KS MA;obtain⟨dst,h2,q2⟩:=bm underlying56 h j 2 _ rfl rfl rfl mA mB;obtain⟨ref,h3,q3⟩:=bm underlying56 h j 3 _ rfl rfl rfl mA mB;obtain⟨Ni,h4,q4⟩:=bm underlying56 h j 4 _ rfl rfl rfl mA mB;obtain⟨ar,h5,q5⟩:=bm underlying56 h j 5 _ rfl rfl rfl Fh Gr;obtain⟨fr,h6,q6⟩:=bm underlying56 h j 6 _ rfl rfl rfl Fh Gr;obtain⟨nm,h7,q7⟩:=bm underlying56 h j 7 _ rfl rfl rfl Mg Mw;obtain⟨pl,h8,q8⟩:=bm underlying56 h j 8 _ rfl rfl rfl mA mB;have e0:[c0]=[.int .u8 k]:=h0;have e1:[c1]=[.int .u8 op]:=h1;have e2:c2=.int .i64 dst:=(el (c:=c2) h2).1;have e3:c3=.int .i64 ref:=(el (c:=c3) h3).1;have e4:J=.int .i64 Ni:=(el (c:=J) h4).1;have e5:aK (jm w) w o ar:=el (c:=o) h5;have e6:aK (jm w) w C fr:=el (c:=C) h6;have e7:R=.int .i64 nm:=(el (c:=R) h7).1;have e8:Y=.int .i64 pl:=(el (c:=Y) h8).1;cases e0;cases e1;subst e2;subst e3;subst e4;subst e7;subst e8;exact⟨⟨k,op,dst,ref,Ni,ar,fr,nm,pl⟩,⟨o,C,rfl,e5,e6,⟨q0,q1,gC q2,gC q3,gC q4,gC q7,gC q8⟩⟩,⟨q5.1,q6.1⟩,⟨gC q2,gC q3,gC q4,fun a I=>gC (q5.2 a I),fun a I=>gC (q6.2 a I)⟩⟩
theorem My:fB enc w 43 (eT tZ) fun l=>l.length≤1048576∧∀x∈l,Cv x∧iM x:=fi underlying43 Mh (by decide) (by decide) MQ
theorem Mx:fB enc w 40 (eT bW) fun l=>l.length≤1048576∧∀x∈l,x.length≤1048576∧∀y∈x,Cv y∧iM y:=pR (fi underlying40 Mj (by decide) (by decide) My)
def LS (b:aw):Prop:=b.Ng.length≤1048576∧∀x∈b.Ng,x.length≤1048576∧∀y∈x,Cv y∧iM y
theorem Lj:fB enc w 42 qO LS:=fun fuel cs d ps h j=>by obtain⟨a,b,c,rfl⟩:=Mt (jV underlying42 Fd h);obtain⟨m,o,C⟩:=bm underlying42 h j 0 _ rfl rfl rfl mA mB;obtain⟨n,I,J⟩:=bm underlying42 h j 1 _ rfl rfl rfl mA mB;obtain⟨l,R,Y⟩:=bm underlying42 h j 2 _ rfl rfl rfl Mi Mx;have e0:a=.int .i64 m:=(el (c:=a) o).1;have e1:b=.int .i64 n:=(el (c:=b) I).1;have e2:bW (jm w) w c l:=el (c:=c) R;subst e0;subst e1;exact⟨⟨m,n,l⟩,⟨c,rfl,e2,gC C,gC J⟩,Y⟩
theorem Li:fB enc w 28 (eT mL) fun l=>l.length≤1048576∧∀b∈l,LS b:=fi underlying28 Fd (by decide) (by decide) Lj
theorem Ll:fB enc w 27 (eT qaC) fun l=>l.length≤1048576∧∀b∈l,True:=fi underlying27 Fe (by decide) (by decide) Lk
theorem Gu {fuel:Nat}{xs:Array Value}{d:DataW H}{ps:List MemPlace}(h:DataW.trod enc prog w 0 (fun _=>true) true fuel 26 xs.toList=some (d,ps))(j:Rows.uptoBulk d≤1048576):∃p,dJ (jm w) w (.agg xs) p∧kj p:=by obtain⟨a,b,c,e,f,o⟩:=MO (jV underlying26 Mk h);rw[o] at h;obtain⟨C,Y,q0⟩:=bm underlying26 h j 0 _ rfl rfl rfl KQ Ln;obtain⟨I,h1,q1⟩:=bm underlying26 h j 1 _ rfl rfl rfl KR Lo;obtain⟨J,h2,q2⟩:=bm underlying26 h j 2 _ rfl rfl rfl Fg Ci;obtain⟨R,h3,q3⟩:=bm underlying26 h j 3 _ rfl rfl rfl Fg Ci;obtain⟨n,h4,q4⟩:=bm underlying26 h j 4 _ rfl rfl rfl mA mB;have e0:gB (jm w) w a C:=el (c:=a) Y;have e1:nZ (jm w) w b I:=el (c:=b) h1;have e2:kh (jm w) w c J:=el (c:=c) h2;have e3:kh (jm w) w e R:=el (c:=e) h3;have e4:f=.int .i64 n:=(el (c:=f) h4).1;subst e4;exact⟨⟨C,I,J,R,n⟩,⟨a,b,c,e,by rw[←Array.toArray_toList (xs:=xs),o],e0,e1,e2,e3,q4⟩,⟨q0.2,q2.2,q3.2⟩⟩
theorem DA {fuel:Nat}{xs:Array Value}{d:DataW H}{ps:List MemPlace}(h:DataW.trod enc prog w 0 (fun _=>true) true fuel 30 xs.toList=some (d,ps))(j:Rows.uptoBulk d≤1048576):∃c,cQ (jm w) w (.agg xs) c∧lY c∧rK c:=by obtain⟨a,b,c,o⟩:=Mt (jV underlying30 KP h);rw[o] at h;obtain⟨J,h0,q0⟩:=bm underlying30 h j 0 _ rfl rfl rfl KO Ll;obtain⟨R,h1,C⟩:=bm underlying30 h j 1 _ rfl rfl rfl KN Li;obtain⟨n,h2,Y⟩:=bm underlying30 h j 2 _ rfl rfl rfl mA mB;have e0:qaC (jm w) w a J:=el (c:=a) h0;have e1:mL (jm w) w b R:=el (c:=b) h1;have e2:c=.int .i64 n:=(el (c:=c) h2).1;subst e2;refine⟨⟨J,R,n⟩,⟨a,b,by rw[←Array.toArray_toList (xs:=xs),o],e0,e1,gC Y⟩,⟨q0.1,C.1,fun b j=>(C.2 b j).1,fun b j l hl=>((C.2 b j).2 l hl).1,fun b j l hl x I=>(((C.2 b j).2 l hl).2 x I).1⟩,⟨gC Y,fun b j x I=>?_⟩⟩;obtain⟨l,hl,I⟩:=List.mem_flatten.1 I;exact(((C.2 b j).2 l hl).2 x I).2
end
end
end Go.Proofs.YtgdlhckhpolnnaaGreatDoor
