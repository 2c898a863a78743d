/- Part 35 of the proof of CallsTo (its last part says what is proved). No condition. -/
import Derived.Test.YtceloincoomjeaaGreatDoorK33
namespace Go.Proofs.YtceloincoomjeaaGreatDoor
set_option maxRecDepth 100000
set_option maxHeartbeats 8000000
open Go.RowKit Go.Proofs.Tryz
section
attribute [local go_sem] Kh Ki Kg Me
theorem fw {s:ByteArray}{i lo hi:Nat}(h:aW s i lo hi=true):i<s.size:=by unfold aW at h;simp only[gE,iH] at h;exact h.1.1
theorem IT (s:ByteArray)(i:Nat)(w:World)(hi:i<s.size)(hs:s.size≤140737488355328)(ha:224≤dt s i)(hz:dt s i≤239)(R:dt s i=224):Calls prog 123 #[.string s,.int .i64 i] w fun e Z=>e=.returned (.tuple #[.int .i64 ((aM s i).1:Nat),.int .i64 ((aM s i).2:Nat)])∧(∃n,Z=w.drewN n):=by
 have hm:=fun a lo hi k w h0 h1 h2=>kz s a lo hi k w h0 h1 h2 (by omega);have HM:=oH hm;have I:=dA s i hi;have h3:(s[i]' hi).toNat<256:=(s[i]' hi).toNat_lt;clear hm;have a1:=R;rw[I] at a1;have q1:(((s[i]' hi).toNat:Int)==224)=true:=by rw[cy];omega
 have q2:(((s[i]' hi).toNat:Int)==237)=false:=by rw[bE];omega
 clear a1;cases j:aW s (i+1) 160 191 with
 |false=>
  have J:aM s i=(0,0):=by unfold aM;rw[ae (by omega),ae (by omega),ap R,ae (by omega:¬dt s i=237),ae (by rw[j];simp),ae (by omega)]
  rw[J];rw[I] at ha hz;have Y:=J2 j I;clear J I j;clear R;go_enter func123,ntmps123;go_wp2_with fail;refine(HM.out _ 160 191 (i+1) _ (by omega) (by omega) (by omega)).mono ?_;rintro e Z ⟨rfl,rfl⟩;rw[show aW s (i+1) (Int.toNat 160) (Int.toNat 191)=false from Y.1];go_wp2_with fail;go_ret2;exact⟨rfl,0,rfl⟩
 |true=>
  cases l:aW s (i+2) 128 191 with
  |false=>
   have J:aM s i=(0,0):=by unfold aM;rw[ae (by omega),ae (by omega),ap R,ae (by omega:¬dt s i=237),ae (by rw[l];simp),ae (by omega)]
   rw[J];rw[I] at ha hz;have Y:=J3 j l I;clear J I j l;clear R;go_enter func123,ntmps123;go_wp2_with fail;refine(HM.out _ 160 191 (i+1) _ (by omega) (by omega) (by omega)).mono ?_;rintro e Z ⟨rfl,rfl⟩;rw[show aW s (i+1) (Int.toNat 160) (Int.toNat 191)=true from Y.1];go_wp2_with fail;refine(HM.out _ 128 191 (i+2) _ (by omega) (by omega) (by omega)).mono ?_;rintro e Z ⟨rfl,rfl⟩;rw[show aW s (i+2) (Int.toNat 128) (Int.toNat 191)=false from Y.2.1];go_wp2_with fail;go_ret2;exact⟨rfl,0,rfl⟩
  |true=>
   have J:aM s i=(dt s i%16*4096+dt s (i+1)%64*64+dt s (i+2)%64,3):=by unfold aM;rw[ae (by omega),ae (by omega),ap R,ae (by omega:¬dt s i=237),ap ⟨⟨ha,hz⟩,j,l⟩]
   have o:=fw j;have a6:=dA s (i+1) o;have a8:(s[i+1]' o).toNat<256:=(s[i+1]' o).toNat_lt;have b0:(i:Int)+1<(s.size:Int):=by omega
   have b1:(0:Int)≤(i:Int)+1:=by omega
   have C:=fw l;have a7:=dA s (i+2) C;have b2:(s[i+2]' C).toNat<256:=(s[i+2]' C).toNat_lt;have b3:(i:Int)+2<(s.size:Int):=by omega
   have b4:(0:Int)≤(i:Int)+2:=by omega
   rw[J];rw[I] at ha hz⊢;rw[a6,a7];have Y:=J3 j l I;clear J I j l a6 a7;clear R;go_enter func123,ntmps123;go_wp2_with fail;refine(HM.out _ 160 191 (i+1) _ (by omega) (by omega) (by omega)).mono ?_;rintro e Z ⟨rfl,rfl⟩;rw[show aW s (i+1) (Int.toNat 160) (Int.toNat 191)=true from Y.1];go_wp2_with fail;refine(HM.out _ 128 191 (i+2) _ (by omega) (by omega) (by omega)).mono ?_;rintro e Z ⟨rfl,rfl⟩;rw[show aW s (i+2) (Int.toNat 128) (Int.toNat 191)=true from Y.2.1];go_wp2_with fail;go_quiet (fail);go_wp2;go_ret2;exact⟨by simp,_,rfl⟩
theorem IV (s:ByteArray)(i:Nat)(w:World)(hi:i<s.size)(hs:s.size≤140737488355328)(ha:224≤dt s i)(hz:dt s i≤239)(R:dt s i=237):Calls prog 123 #[.string s,.int .i64 i] w fun e Z=>e=.returned (.tuple #[.int .i64 ((aM s i).1:Nat),.int .i64 ((aM s i).2:Nat)])∧(∃n,Z=w.drewN n):=by
 have hm:=fun a lo hi k w h0 h1 h2=>kz s a lo hi k w h0 h1 h2 (by omega);have HM:=oH hm;have I:=dA s i hi;have h3:(s[i]' hi).toNat<256:=(s[i]' hi).toNat_lt;clear hm;have a1:=R;rw[I] at a1;have q1:(((s[i]' hi).toNat:Int)==224)=false:=by rw[bE];omega
 have q2:(((s[i]' hi).toNat:Int)==237)=true:=by rw[cy];omega
 clear a1;cases j:aW s (i+1) 128 159 with
 |false=>
  have J:aM s i=(0,0):=by unfold aM;rw[ae (by omega),ae (by omega),ae (by omega:¬dt s i=224),ap R,ae (by rw[j];simp),ae (by omega)]
  rw[J];rw[I] at ha hz;have Y:=J2 j I;clear J I j;clear R;go_enter func123,ntmps123;go_wp2_with fail;refine(HM.out _ 128 159 (i+1) _ (by omega) (by omega) (by omega)).mono ?_;rintro e Z ⟨rfl,rfl⟩;rw[show aW s (i+1) (Int.toNat 128) (Int.toNat 159)=false from Y.1];go_wp2_with fail;go_ret2;exact⟨rfl,0,rfl⟩
 |true=>
  cases l:aW s (i+2) 128 191 with
  |false=>
   have J:aM s i=(0,0):=by unfold aM;rw[ae (by omega),ae (by omega),ae (by omega:¬dt s i=224),ap R,ae (by rw[l];simp),ae (by omega)]
   rw[J];rw[I] at ha hz;have Y:=J3 j l I;clear J I j l;clear R;go_enter func123,ntmps123;go_wp2_with fail;refine(HM.out _ 128 159 (i+1) _ (by omega) (by omega) (by omega)).mono ?_;rintro e Z ⟨rfl,rfl⟩;rw[show aW s (i+1) (Int.toNat 128) (Int.toNat 159)=true from Y.1];go_wp2_with fail;refine(HM.out _ 128 191 (i+2) _ (by omega) (by omega) (by omega)).mono ?_;rintro e Z ⟨rfl,rfl⟩;rw[show aW s (i+2) (Int.toNat 128) (Int.toNat 191)=false from Y.2.1];go_wp2_with fail;go_ret2;exact⟨rfl,0,rfl⟩
  |true=>
   have J:aM s i=(dt s i%16*4096+dt s (i+1)%64*64+dt s (i+2)%64,3):=by unfold aM;rw[ae (by omega),ae (by omega),ae (by omega:¬dt s i=224),ap R,ap ⟨⟨ha,hz⟩,j,l⟩]
   have o:=fw j;have a6:=dA s (i+1) o;have a8:(s[i+1]' o).toNat<256:=(s[i+1]' o).toNat_lt;have b0:(i:Int)+1<(s.size:Int):=by omega
   have b1:(0:Int)≤(i:Int)+1:=by omega
   have C:=fw l;have a7:=dA s (i+2) C;have b2:(s[i+2]' C).toNat<256:=(s[i+2]' C).toNat_lt;have b3:(i:Int)+2<(s.size:Int):=by omega
   have b4:(0:Int)≤(i:Int)+2:=by omega
   rw[J];rw[I] at ha hz⊢;rw[a6,a7];have Y:=J3 j l I;clear J I j l a6 a7;clear R;go_enter func123,ntmps123;go_wp2_with fail;refine(HM.out _ 128 159 (i+1) _ (by omega) (by omega) (by omega)).mono ?_;rintro e Z ⟨rfl,rfl⟩;rw[show aW s (i+1) (Int.toNat 128) (Int.toNat 159)=true from Y.1];go_wp2_with fail;refine(HM.out _ 128 191 (i+2) _ (by omega) (by omega) (by omega)).mono ?_;rintro e Z ⟨rfl,rfl⟩;rw[show aW s (i+2) (Int.toNat 128) (Int.toNat 191)=true from Y.2.1];go_wp2_with fail;go_quiet (fail);go_wp2;go_ret2;exact⟨by simp,_,rfl⟩
theorem IW (s:ByteArray)(i:Nat)(w:World)(hi:i<s.size)(hs:s.size≤140737488355328)(ha:224≤dt s i)(hz:dt s i≤239)(I:dt s i≠224∧dt s i≠237):Calls prog 123 #[.string s,.int .i64 i] w fun e Z=>e=.returned (.tuple #[.int .i64 ((aM s i).1:Nat),.int .i64 ((aM s i).2:Nat)])∧(∃n,Z=w.drewN n):=by
 have hm:=fun a lo hi k w h0 h1 h2=>kz s a lo hi k w h0 h1 h2 (by omega);have HM:=oH hm;have J:=dA s i hi;have h3:(s[i]' hi).toNat<256:=(s[i]' hi).toNat_lt;clear hm;have a1:=I;rw[J] at a1;have q1:(((s[i]' hi).toNat:Int)==224)=false:=by rw[bE];omega
 have q2:(((s[i]' hi).toNat:Int)==237)=false:=by rw[bE];omega
 clear a1;cases j:aW s (i+1) 128 191 with
 |false=>
  have R:aM s i=(0,0):=by unfold aM;rw[ae (by omega),ae (by omega),ae I.1,ae I.2,ae (by rw[j];simp),ae (by omega)]
  rw[R];rw[J] at ha hz;have Y:=J2 j J;clear R J j;clear I;go_enter func123,ntmps123;go_wp2_with fail;refine(HM.out _ 128 191 (i+1) _ (by omega) (by omega) (by omega)).mono ?_;rintro e Z ⟨rfl,rfl⟩;rw[show aW s (i+1) (Int.toNat 128) (Int.toNat 191)=false from Y.1];go_wp2_with fail;go_ret2;exact⟨rfl,0,rfl⟩
 |true=>
  cases l:aW s (i+2) 128 191 with
  |false=>
   have R:aM s i=(0,0):=by unfold aM;rw[ae (by omega),ae (by omega),ae I.1,ae I.2,ae (by rw[l];simp),ae (by omega)]
   rw[R];rw[J] at ha hz;have Y:=J3 j l J;clear R J j l;clear I;go_enter func123,ntmps123;go_wp2_with fail;refine(HM.out _ 128 191 (i+1) _ (by omega) (by omega) (by omega)).mono ?_;rintro e Z ⟨rfl,rfl⟩;rw[show aW s (i+1) (Int.toNat 128) (Int.toNat 191)=true from Y.1];go_wp2_with fail;refine(HM.out _ 128 191 (i+2) _ (by omega) (by omega) (by omega)).mono ?_;rintro e Z ⟨rfl,rfl⟩;rw[show aW s (i+2) (Int.toNat 128) (Int.toNat 191)=false from Y.2.1];go_wp2_with fail;go_ret2;exact⟨rfl,0,rfl⟩
  |true=>
   have R:aM s i=(dt s i%16*4096+dt s (i+1)%64*64+dt s (i+2)%64,3):=by unfold aM;rw[ae (by omega),ae (by omega),ae I.1,ae I.2,ap ⟨⟨ha,hz⟩,j,l⟩]
   have o:=fw j;have a6:=dA s (i+1) o;have a8:(s[i+1]' o).toNat<256:=(s[i+1]' o).toNat_lt;have b0:(i:Int)+1<(s.size:Int):=by omega
   have b1:(0:Int)≤(i:Int)+1:=by omega
   have C:=fw l;have a7:=dA s (i+2) C;have b2:(s[i+2]' C).toNat<256:=(s[i+2]' C).toNat_lt;have b3:(i:Int)+2<(s.size:Int):=by omega
   have b4:(0:Int)≤(i:Int)+2:=by omega
   rw[R];rw[J] at ha hz⊢;rw[a6,a7];have Y:=J3 j l J;clear R J j l a6 a7;clear I;go_enter func123,ntmps123;go_wp2_with fail;refine(HM.out _ 128 191 (i+1) _ (by omega) (by omega) (by omega)).mono ?_;rintro e Z ⟨rfl,rfl⟩;rw[show aW s (i+1) (Int.toNat 128) (Int.toNat 191)=true from Y.1];go_wp2_with fail;refine(HM.out _ 128 191 (i+2) _ (by omega) (by omega) (by omega)).mono ?_;rintro e Z ⟨rfl,rfl⟩;rw[show aW s (i+2) (Int.toNat 128) (Int.toNat 191)=true from Y.2.1];go_wp2_with fail;go_quiet (fail);go_wp2;go_ret2;exact⟨by simp,_,rfl⟩
theorem IX (s:ByteArray)(i:Nat)(w:World)(hi:i<s.size)(hs:s.size≤140737488355328)(ha:240≤dt s i)(hz:dt s i≤244)(hq:dt s i=240):Calls prog 123 #[.string s,.int .i64 i] w fun e w'=>e=.returned (.tuple #[.int .i64 ((aM s i).1:Nat),.int .i64 ((aM s i).2:Nat)])∧(∃n,w'=w.drewN n):=by
 have hm:=fun a lo hi k w h0 h1 h2=>kz s a lo hi k w h0 h1 h2 (by omega);have HM:=oH hm;have C:=dA s i hi;have h3:(s[i]' hi).toNat<256:=(s[i]' hi).toNat_lt;clear hm;have a1:=hq;rw[C] at a1;have q1:(((s[i]' hi).toNat:Int)==240)=true:=by rw[cy];omega
 have q2:(((s[i]' hi).toNat:Int)==244)=false:=by rw[bE];omega
 clear a1;cases j:aW s (i+1) 144 191 with
 |false=>
  have J:aM s i=(0,0):=by unfold aM;rw[ae (by omega),ae (by omega),ae (by omega),ap hq,ae (by omega:¬dt s i=244),ae (by rw[j];simp)]
  rw[J];rw[C] at ha hz;have I:=J2 j C;clear J C j;clear hq;go_enter func123,ntmps123;go_wp2_with fail;refine(HM.out _ 144 191 (i+1) _ (by omega) (by omega) (by omega)).mono ?_;rintro e w' ⟨rfl,rfl⟩;rw[show aW s (i+1) (Int.toNat 144) (Int.toNat 191)=false from I.1];go_wp2_with fail;go_ret2;exact⟨rfl,0,rfl⟩
 |true=>
  cases l:aW s (i+2) 128 191 with
  |false=>
   have J:aM s i=(0,0):=by unfold aM;rw[ae (by omega),ae (by omega),ae (by omega),ap hq,ae (by omega:¬dt s i=244),ae (by rw[l];simp)]
   rw[J];rw[C] at ha hz;have I:=J3 j l C;clear J C j l;clear hq;go_enter func123,ntmps123;go_wp2_with fail;refine(HM.out _ 144 191 (i+1) _ (by omega) (by omega) (by omega)).mono ?_;rintro e w' ⟨rfl,rfl⟩;rw[show aW s (i+1) (Int.toNat 144) (Int.toNat 191)=true from I.1];go_wp2_with fail;refine(HM.out _ 128 191 (i+2) _ (by omega) (by omega) (by omega)).mono ?_;rintro e w' ⟨rfl,rfl⟩;rw[show aW s (i+2) (Int.toNat 128) (Int.toNat 191)=false from I.2.1];go_wp2_with fail;go_ret2;exact⟨rfl,0,rfl⟩
  |true=>
   cases o:aW s (i+3) 128 191 with
   |false=>
    have J:aM s i=(0,0):=by unfold aM;rw[ae (by omega),ae (by omega),ae (by omega),ap hq,ae (by omega:¬dt s i=244),ae (by rw[o];simp)]
    rw[J];rw[C] at ha hz;have I:=J4 j l o C;clear J C j l o;clear hq;go_enter func123,ntmps123;go_wp2_with fail;refine(HM.out _ 144 191 (i+1) _ (by omega) (by omega) (by omega)).mono ?_;rintro e w' ⟨rfl,rfl⟩;rw[show aW s (i+1) (Int.toNat 144) (Int.toNat 191)=true from I.1];go_wp2_with fail;refine(HM.out _ 128 191 (i+2) _ (by omega) (by omega) (by omega)).mono ?_;rintro e w' ⟨rfl,rfl⟩;rw[show aW s (i+2) (Int.toNat 128) (Int.toNat 191)=true from I.2.1];go_wp2_with fail;refine(HM.out _ 128 191 (i+3) _ (by omega) (by omega) (by omega)).mono ?_;rintro e w' ⟨rfl,rfl⟩;rw[show aW s (i+3) (Int.toNat 128) (Int.toNat 191)=false from I.2.2.1];go_wp2_with fail;go_ret2;exact⟨rfl,0,rfl⟩
   |true=>
    have J:aM s i=(dt s i%8*262144+dt s (i+1)%64*4096+dt s (i+2)%64*64+dt s (i+3)%64,4):=by unfold aM;rw[ae (by omega),ae (by omega),ae (by omega),ap hq,ae (by omega:¬dt s i=244),ap ⟨⟨ha,hz⟩,j,l,o⟩]
    have R:=fw j;have a6:=dA s (i+1) R;have b0:(s[i+1]' R).toNat<256:=(s[i+1]' R).toNat_lt;have b1:(i:Int)+1<(s.size:Int):=by omega
    have b2:(0:Int)≤(i:Int)+1:=by omega
    have Y:=fw l;have a7:=dA s (i+2) Y;have b3:(s[i+2]' Y).toNat<256:=(s[i+2]' Y).toNat_lt;have b4:(i:Int)+2<(s.size:Int):=by omega
    have b5:(0:Int)≤(i:Int)+2:=by omega
    have Z:=fw o;have a8:=dA s (i+3) Z;have b6:(s[i+3]' Z).toNat<256:=(s[i+3]' Z).toNat_lt;have b7:(i:Int)+3<(s.size:Int):=by omega
    have b8:(0:Int)≤(i:Int)+3:=by omega
    rw[J];rw[C] at ha hz⊢;rw[a6,a7,a8];have I:=J4 j l o C;clear J C j l o a6 a7 a8;clear hq;go_enter func123,ntmps123;go_wp2_with fail;refine(HM.out _ 144 191 (i+1) _ (by omega) (by omega) (by omega)).mono ?_;rintro e w' ⟨rfl,rfl⟩;rw[show aW s (i+1) (Int.toNat 144) (Int.toNat 191)=true from I.1];go_wp2_with fail;refine(HM.out _ 128 191 (i+2) _ (by omega) (by omega) (by omega)).mono ?_;rintro e w' ⟨rfl,rfl⟩;rw[show aW s (i+2) (Int.toNat 128) (Int.toNat 191)=true from I.2.1];go_wp2_with fail;refine(HM.out _ 128 191 (i+3) _ (by omega) (by omega) (by omega)).mono ?_;rintro e w' ⟨rfl,rfl⟩;rw[show aW s (i+3) (Int.toNat 128) (Int.toNat 191)=true from I.2.2.1];go_wp2_with fail;go_quiet (fail);go_wp2;go_ret2;exact⟨by simp,_,rfl⟩
theorem IY (s:ByteArray)(i:Nat)(w:World)(hi:i<s.size)(hs:s.size≤140737488355328)(ha:240≤dt s i)(hz:dt s i≤244)(hq:dt s i=244):Calls prog 123 #[.string s,.int .i64 i] w fun e w'=>e=.returned (.tuple #[.int .i64 ((aM s i).1:Nat),.int .i64 ((aM s i).2:Nat)])∧(∃n,w'=w.drewN n):=by
 have hm:=fun a lo hi k w h0 h1 h2=>kz s a lo hi k w h0 h1 h2 (by omega);have HM:=oH hm;have C:=dA s i hi;have h3:(s[i]' hi).toNat<256:=(s[i]' hi).toNat_lt;clear hm;have a1:=hq;rw[C] at a1;have q1:(((s[i]' hi).toNat:Int)==240)=false:=by rw[bE];omega
 have q2:(((s[i]' hi).toNat:Int)==244)=true:=by rw[cy];omega
 clear a1;cases j:aW s (i+1) 128 143 with
 |false=>
  have J:aM s i=(0,0):=by unfold aM;rw[ae (by omega),ae (by omega),ae (by omega),ae (by omega:¬dt s i=240),ap hq,ae (by rw[j];simp)]
  rw[J];rw[C] at ha hz;have I:=J2 j C;clear J C j;clear hq;go_enter func123,ntmps123;go_wp2_with fail;refine(HM.out _ 128 143 (i+1) _ (by omega) (by omega) (by omega)).mono ?_;rintro e w' ⟨rfl,rfl⟩;rw[show aW s (i+1) (Int.toNat 128) (Int.toNat 143)=false from I.1];go_wp2_with fail;go_ret2;exact⟨rfl,0,rfl⟩
 |true=>
  cases l:aW s (i+2) 128 191 with
  |false=>
   have J:aM s i=(0,0):=by unfold aM;rw[ae (by omega),ae (by omega),ae (by omega),ae (by omega:¬dt s i=240),ap hq,ae (by rw[l];simp)]
   rw[J];rw[C] at ha hz;have I:=J3 j l C;clear J C j l;clear hq;go_enter func123,ntmps123;go_wp2_with fail;refine(HM.out _ 128 143 (i+1) _ (by omega) (by omega) (by omega)).mono ?_;rintro e w' ⟨rfl,rfl⟩;rw[show aW s (i+1) (Int.toNat 128) (Int.toNat 143)=true from I.1];go_wp2_with fail;refine(HM.out _ 128 191 (i+2) _ (by omega) (by omega) (by omega)).mono ?_;rintro e w' ⟨rfl,rfl⟩;rw[show aW s (i+2) (Int.toNat 128) (Int.toNat 191)=false from I.2.1];go_wp2_with fail;go_ret2;exact⟨rfl,0,rfl⟩
  |true=>
   cases o:aW s (i+3) 128 191 with
   |false=>
    have J:aM s i=(0,0):=by unfold aM;rw[ae (by omega),ae (by omega),ae (by omega),ae (by omega:¬dt s i=240),ap hq,ae (by rw[o];simp)]
    rw[J];rw[C] at ha hz;have I:=J4 j l o C;clear J C j l o;clear hq;go_enter func123,ntmps123;go_wp2_with fail;refine(HM.out _ 128 143 (i+1) _ (by omega) (by omega) (by omega)).mono ?_;rintro e w' ⟨rfl,rfl⟩;rw[show aW s (i+1) (Int.toNat 128) (Int.toNat 143)=true from I.1];go_wp2_with fail;refine(HM.out _ 128 191 (i+2) _ (by omega) (by omega) (by omega)).mono ?_;rintro e w' ⟨rfl,rfl⟩;rw[show aW s (i+2) (Int.toNat 128) (Int.toNat 191)=true from I.2.1];go_wp2_with fail;refine(HM.out _ 128 191 (i+3) _ (by omega) (by omega) (by omega)).mono ?_;rintro e w' ⟨rfl,rfl⟩;rw[show aW s (i+3) (Int.toNat 128) (Int.toNat 191)=false from I.2.2.1];go_wp2_with fail;go_ret2;exact⟨rfl,0,rfl⟩
   |true=>
    have J:aM s i=(dt s i%8*262144+dt s (i+1)%64*4096+dt s (i+2)%64*64+dt s (i+3)%64,4):=by unfold aM;rw[ae (by omega),ae (by omega),ae (by omega),ae (by omega:¬dt s i=240),ap hq,ap ⟨⟨ha,hz⟩,j,l,o⟩]
    have R:=fw j;have a6:=dA s (i+1) R;have b0:(s[i+1]' R).toNat<256:=(s[i+1]' R).toNat_lt;have b1:(i:Int)+1<(s.size:Int):=by omega
    have b2:(0:Int)≤(i:Int)+1:=by omega
    have Y:=fw l;have a7:=dA s (i+2) Y;have b3:(s[i+2]' Y).toNat<256:=(s[i+2]' Y).toNat_lt;have b4:(i:Int)+2<(s.size:Int):=by omega
    have b5:(0:Int)≤(i:Int)+2:=by omega
    have Z:=fw o;have a8:=dA s (i+3) Z;have b6:(s[i+3]' Z).toNat<256:=(s[i+3]' Z).toNat_lt;have b7:(i:Int)+3<(s.size:Int):=by omega
    have b8:(0:Int)≤(i:Int)+3:=by omega
    rw[J];rw[C] at ha hz⊢;rw[a6,a7,a8];have I:=J4 j l o C;clear J C j l o a6 a7 a8;clear hq;go_enter func123,ntmps123;go_wp2_with fail;refine(HM.out _ 128 143 (i+1) _ (by omega) (by omega) (by omega)).mono ?_;rintro e w' ⟨rfl,rfl⟩;rw[show aW s (i+1) (Int.toNat 128) (Int.toNat 143)=true from I.1];go_wp2_with fail;refine(HM.out _ 128 191 (i+2) _ (by omega) (by omega) (by omega)).mono ?_;rintro e w' ⟨rfl,rfl⟩;rw[show aW s (i+2) (Int.toNat 128) (Int.toNat 191)=true from I.2.1];go_wp2_with fail;refine(HM.out _ 128 191 (i+3) _ (by omega) (by omega) (by omega)).mono ?_;rintro e w' ⟨rfl,rfl⟩;rw[show aW s (i+3) (Int.toNat 128) (Int.toNat 191)=true from I.2.2.1];go_wp2_with fail;go_quiet (fail);go_wp2;go_ret2;exact⟨by simp,_,rfl⟩
theorem IZ (s:ByteArray)(i:Nat)(w:World)(hi:i<s.size)(hs:s.size≤140737488355328)(ha:240≤dt s i)(hz:dt s i≤244)(C:dt s i≠240∧dt s i≠244):Calls prog 123 #[.string s,.int .i64 i] w fun e w'=>e=.returned (.tuple #[.int .i64 ((aM s i).1:Nat),.int .i64 ((aM s i).2:Nat)])∧(∃n,w'=w.drewN n):=by
 have hm:=fun a lo hi k w h0 h1 h2=>kz s a lo hi k w h0 h1 h2 (by omega);have HM:=oH hm;have I:=dA s i hi;have h3:(s[i]' hi).toNat<256:=(s[i]' hi).toNat_lt;clear hm;have a6:=C;rw[I] at a6;have q1:(((s[i]' hi).toNat:Int)==240)=false:=by rw[bE];omega
 have q2:(((s[i]' hi).toNat:Int)==244)=false:=by rw[bE];omega
 clear a6;cases j:aW s (i+1) 128 191 with
 |false=>
  have R:aM s i=(0,0):=by unfold aM;rw[ae (by omega),ae (by omega),ae (by omega),ae C.1,ae C.2,ae (by rw[j];simp)]
  rw[R];rw[I] at ha hz;have J:=J2 j I;clear R I j;clear C;go_enter func123,ntmps123;go_wp2_with fail;refine(HM.out _ 128 191 (i+1) _ (by omega) (by omega) (by omega)).mono ?_;rintro e w' ⟨rfl,rfl⟩;rw[show aW s (i+1) (Int.toNat 128) (Int.toNat 191)=false from J.1];go_wp2_with fail;go_ret2;exact⟨rfl,0,rfl⟩
 |true=>
  cases l:aW s (i+2) 128 191 with
  |false=>
   have R:aM s i=(0,0):=by unfold aM;rw[ae (by omega),ae (by omega),ae (by omega),ae C.1,ae C.2,ae (by rw[l];simp)]
   rw[R];rw[I] at ha hz;have J:=J3 j l I;clear R I j l;clear C;go_enter func123,ntmps123;go_wp2_with fail;refine(HM.out _ 128 191 (i+1) _ (by omega) (by omega) (by omega)).mono ?_;rintro e w' ⟨rfl,rfl⟩;rw[show aW s (i+1) (Int.toNat 128) (Int.toNat 191)=true from J.1];go_wp2_with fail;refine(HM.out _ 128 191 (i+2) _ (by omega) (by omega) (by omega)).mono ?_;rintro e w' ⟨rfl,rfl⟩;rw[show aW s (i+2) (Int.toNat 128) (Int.toNat 191)=false from J.2.1];go_wp2_with fail;go_ret2;exact⟨rfl,0,rfl⟩
  |true=>
   cases o:aW s (i+3) 128 191 with
   |false=>
    have R:aM s i=(0,0):=by unfold aM;rw[ae (by omega),ae (by omega),ae (by omega),ae C.1,ae C.2,ae (by rw[o];simp)]
    rw[R];rw[I] at ha hz;have J:=J4 j l o I;clear R I j l o;clear C;go_enter func123,ntmps123;go_wp2_with fail;refine(HM.out _ 128 191 (i+1) _ (by omega) (by omega) (by omega)).mono ?_;rintro e w' ⟨rfl,rfl⟩;rw[show aW s (i+1) (Int.toNat 128) (Int.toNat 191)=true from J.1];go_wp2_with fail;refine(HM.out _ 128 191 (i+2) _ (by omega) (by omega) (by omega)).mono ?_;rintro e w' ⟨rfl,rfl⟩;rw[show aW s (i+2) (Int.toNat 128) (Int.toNat 191)=true from J.2.1];go_wp2_with fail;refine(HM.out _ 128 191 (i+3) _ (by omega) (by omega) (by omega)).mono ?_;rintro e w' ⟨rfl,rfl⟩;rw[show aW s (i+3) (Int.toNat 128) (Int.toNat 191)=false from J.2.2.1];go_wp2_with fail;go_ret2;exact⟨rfl,0,rfl⟩
   |true=>
    have R:aM s i=(dt s i%8*262144+dt s (i+1)%64*4096+dt s (i+2)%64*64+dt s (i+3)%64,4):=by unfold aM;rw[ae (by omega),ae (by omega),ae (by omega),ae C.1,ae C.2,ap ⟨⟨ha,hz⟩,j,l,o⟩]
    have Y:=fw j;have a7:=dA s (i+1) Y;have b1:(s[i+1]' Y).toNat<256:=(s[i+1]' Y).toNat_lt;have b2:(i:Int)+1<(s.size:Int):=by omega
    have b3:(0:Int)≤(i:Int)+1:=by omega
    have Z:=fw l;have a8:=dA s (i+2) Z;have b4:(s[i+2]' Z).toNat<256:=(s[i+2]' Z).toNat_lt;have b5:(i:Int)+2<(s.size:Int):=by omega
    have b6:(0:Int)≤(i:Int)+2:=by omega
    have a1:=fw o;have b0:=dA s (i+3) a1;have b7:(s[i+3]' a1).toNat<256:=(s[i+3]' a1).toNat_lt;have b8:(i:Int)+3<(s.size:Int):=by omega
    have b9:(0:Int)≤(i:Int)+3:=by omega
    rw[R];rw[I] at ha hz⊢;rw[a7,a8,b0];have J:=J4 j l o I;clear R I j l o a7 a8 b0;clear C;go_enter func123,ntmps123;go_wp2_with fail;refine(HM.out _ 128 191 (i+1) _ (by omega) (by omega) (by omega)).mono ?_;rintro e w' ⟨rfl,rfl⟩;rw[show aW s (i+1) (Int.toNat 128) (Int.toNat 191)=true from J.1];go_wp2_with fail;refine(HM.out _ 128 191 (i+2) _ (by omega) (by omega) (by omega)).mono ?_;rintro e w' ⟨rfl,rfl⟩;rw[show aW s (i+2) (Int.toNat 128) (Int.toNat 191)=true from J.2.1];go_wp2_with fail;refine(HM.out _ 128 191 (i+3) _ (by omega) (by omega) (by omega)).mono ?_;rintro e w' ⟨rfl,rfl⟩;rw[show aW s (i+3) (Int.toNat 128) (Int.toNat 191)=true from J.2.2.1];go_wp2_with fail;go_quiet (fail);go_wp2;go_ret2;exact⟨by simp,_,rfl⟩
end
theorem CZ (s:ByteArray)(i:Nat)(w:World)(hi:i<s.size)(h:245≤dt s i):Calls prog 123 #[.string s,.int .i64 i] w fun e o=>e=.returned (.tuple #[.int .i64 ((aM s i).1:Nat),.int .i64 ((aM s i).2:Nat)])∧w=o:=by
 have j:=dA s i hi;have C:(s[i]' hi).toNat<256:=(s[i]' hi).toNat_lt;have l:aM s i=(0,0):=by unfold aM;rw[ae (by omega),ae (by omega),ae (by omega),ae (by omega)]
 rw[l];rw[j] at h;clear l j;go_enter func123,ntmps123;go_wp2;go_ret2;exact⟨rfl,rfl⟩
theorem sC (s:ByteArray)(i:Nat)(w:World)(hi:i<s.size)(l:s.size≤140737488355328):Calls prog 123 #[.string s,.int .i64 i] w fun e j=>e=.returned (.tuple #[.int .i64 ((aM s i).1:Nat),.int .i64 ((aM s i).2:Nat)])∧aa All w j:=by
 have same:∀ {R:Ending→Prop},(Calls prog 123 #[.string s,.int .i64 i] w fun e j=>R e∧w=j)→Calls prog 123 #[.string s,.int .i64 i] w fun e j=>R e∧aa All w j:=fun h=>h.mono fun _ _ ⟨C,o⟩=>⟨C,o▸kR⟩;have drew:∀ {R:Ending→Prop},(Calls prog 123 #[.string s,.int .i64 i] w fun e j=>R e∧∃n,j=w.drewN n)→Calls prog 123 #[.string s,.int .i64 i] w fun e j=>R e∧aa All w j:=fun h=>h.mono fun _ _ ⟨C,n,o⟩=>⟨C,o▸kR.drewN n⟩;by_cases C:dt s i<224;·exact same (FI s i w hi l C)
 by_cases o:dt s i≤239
 ·by_cases I:dt s i=224;·exact drew (IT s i w hi l (by omega) o I)
  by_cases J:dt s i=237;·exact drew (IV s i w hi l (by omega) o J)
  exact drew (IW s i w hi l (by omega) o ⟨I,J⟩)
 by_cases Y:dt s i≤244
 ·by_cases I:dt s i=240;·exact drew (IX s i w hi l (by omega) Y I)
  by_cases J:dt s i=244;·exact drew (IY s i w hi l (by omega) Y J)
  exact drew (IZ s i w hi l (by omega) Y ⟨I,J⟩)
 exact same (CZ s i w hi (by omega))
def uj (b0 b1 b2 b3:Nat)(c1 c2 c3:Bool):Nat×Nat:=
 if b0<0x80 then(b0,1)
 else if b0/32==6&&(c1&&b1/64==2) then(if(b0%32)*64+b1%64≥0x80 then((b0%32)*64+b1%64,2) else(0xFFFD,1))
 else if b0/16==14&&(c1&&b1/64==2)&&(c2&&b2/64==2) then
  (if(b0%16)*4096+(b1%64)*64+b2%64≥0x800&&Utf8.valid (((b0%16)*4096+(b1%64)*64+b2%64:Nat):Int) then((b0%16)*4096+(b1%64)*64+b2%64,3) else(0xFFFD,1))
 else if b0/8==30&&(c1&&b1/64==2)&&(c2&&b2/64==2)&&(c3&&b3/64==2) then
  (if(b0%8)*262144+(b1%64)*4096+(b2%64)*64+b3%64≥0x10000&&Utf8.valid (((b0%8)*262144+(b1%64)*4096+(b2%64)*64+b3%64:Nat):Int) then((b0%8)*262144+(b1%64)*4096+(b2%64)*64+b3%64,4) else(0xFFFD,1))
 else(0xFFFD,1)
theorem wE (s:ByteArray)(i:Nat):Utf8.decode s i=uj (dt s i) (dt s (i+1)) (dt s (i+2)) (dt s (i+3)) (decide (i+1<s.size)) (decide (i+2<s.size)) (decide (i+3<s.size)):=rfl
def IP (b0 b1 b2 b3:Nat)(c1 c2 c3:Bool):Nat×Nat:=
 if b0<128 then(b0,1)
 else if(194≤b0∧b0≤223)∧(c1&&decide (128≤b1)&&decide (b1≤191))=true then(b0%32*64+b1%64,2)
 else if(224≤b0∧b0≤239)∧(c1&&decide ((if b0=224 then 160 else 128)≤b1)&&decide (b1≤(if b0=237 then 159 else 191)))=true∧(c2&&decide (128≤b2)&&decide (b2≤191))=true then
  (b0%16*4096+b1%64*64+b2%64,3)
 else if(240≤b0∧b0≤244)∧(c1&&decide ((if b0=240 then 144 else 128)≤b1)&&decide (b1≤(if b0=244 then 143 else 191)))=true∧(c2&&decide (128≤b2)&&decide (b2≤191))=true∧(c3&&decide (128≤b3)&&decide (b3≤191))=true then
  (b0%8*262144+b1%64*4096+b2%64*64+b3%64,4)
 else(0,0)
theorem BV (s:ByteArray)(i:Nat):aM s i=IP (dt s i) (dt s (i+1)) (dt s (i+2)) (dt s (i+3)) (decide (i+1<s.size)) (decide (i+2<s.size)) (decide (i+3<s.size)):=rfl
theorem IQ (j l o C:Nat)(I J R:Bool)(Y:j<256)(Z:l<256)(h2:o<256)(h3:C<256):
 IP j l o C I J R=if(uj j l o C I J R).2=1∧128≤(uj j l o C I J R).1 then(0,0) else uj j l o C I J R:=by
 unfold IP uj;cases I<;>cases J<;>cases R<;>simp only[Bool.true_and,Bool.false_and,Bool.and_false,gE,cy,iH,ge_iff_le,Utf8.valid,Bool.or_eq_true,jL,and_false,if_false];all_goals(repeat' split)<;>simp_all<;>omega
theorem sD (s:ByteArray)(i:Nat):aM s i=if(Utf8.decode s i).2=1∧128≤(Utf8.decode s i).1 then(0,0) else Utf8.decode s i:=by rw[BV,wE];exact IQ _ _ _ _ _ _ _ (mb _ _) (mb _ _) (mb _ _) (mb _ _)
theorem rz (s:ByteArray)(i:Nat):(Utf8.decode s i).2≤4:=by
 rw[wE];unfold uj
 repeat' split
 all_goals simp
theorem yN (s:ByteArray)(i:Nat)(w:World)(hi:i<s.size)(Z:s.size≤140737488355328):Calls prog 122 #[.string s,.int .i64 i] w fun e w'=>e=.returned (.int .i64 ((i+(Utf8.decode s i).2:Nat):Int))∧aa All w w':=by
 have j:=sC s i w hi Z;have l:=sD s i;have R:=ks s i hi;have Y:=rz s i;by_cases o:(Utf8.decode s i).2=1∧128≤(Utf8.decode s i).1;·rw[ap o] at l;rw[l] at j;have I:=J2 j o.1;clear j l o R Y;go_enter func122,ntmps122;go_wp2_with fail;refine I.1.mono ?_;rintro e w1 ⟨rfl,C⟩;have J:=oH C;clear C;go_wp2_with fail;go_ret;exact⟨by rw[I.2];rfl,J.out⟩
 rw[ae o] at l;rw[l] at j;clear l o;generalize Utf8.decode s i=rk at*;obtain⟨r,k⟩:=rk;simp only at j R Y⊢;have a1:((k:Int)==0)=false:=by rw[bE];omega
 have I:=oH j;clear j;go_enter func122,ntmps122;go_wp2_with fail;refine I.out.mono ?_;rintro e w1 ⟨rfl,C⟩;have J:=oH C;clear C;go_wp2_with fail;go_ret;exact⟨by simp,J.out⟩
def km (s:ByteArray):Nat→Nat→Int
 |0,_=> -1
 |f+1,pos=>if pos<s.size then(if(aM s pos).2=0 then(pos:Int) else km s f (pos+(aM s pos).2)) else-1
theorem qn {s:ByteArray}{f pos:Nat}(h:¬pos<s.size):km s (f+1) pos= -1:=by simp[km,h]
theorem oI {s:ByteArray}{f pos:Nat}(h:pos<s.size):km s (f+1) pos=if(aM s pos).2=0 then(pos:Int) else km s f (pos+(aM s pos).2):=by simp[km,h]
theorem FH (s:ByteArray)(i:Nat):(aM s i).2≤4:=by
 rw[sD];split;·simp
 exact rz s i
theorem It (s:ByteArray)(w:World)(hs:s.size≤140737488355328):Calls prog 120 #[.string s] w fun e w'=>e=.returned (.int .i64 (km s (s.size+1) 0))∧aa All w w':=by
 go_enter func120,ntmps120;go_wp2;go_loopg [3] (s.size+1) (fun g i wr=>∃pos f:Nat,g=s.size+1-pos∧i=.int .i64 pos∧pos≤s.size+4∧s.size+1≤pos+f∧1≤f∧aa All w wr∧km s f pos=km s (s.size+1) 0);·exact⟨0,s.size+1,by omega,rfl,by omega,by omega,by omega,kR,rfl⟩
 obtain⟨pos,f,rfl,rfl,a1,hf,a6,l,j⟩:=hrel;obtain⟨f,rfl⟩:∃f',f=f'+1:=⟨f-1,by omega⟩;by_cases C:pos<s.size;·(
 rw[oI C] at j;have I:=sC s pos wr C hs;have h4:=FH s pos;have Z:=oH l;clear l;generalize aM s pos=rk at*;obtain⟨r,k⟩:=rk;simp only at I j h4;have HF:=oH I;clear I;by_cases R:k=0
 ·rw[ap R] at j;have Y:((k:Int)==0)=true:=by rw[cy];omega
  have J:=oH j;clear j R;go_wp2_with fail;refine HF.out.mono ?_;rintro e w1 ⟨rfl,o⟩;have H1:=oH (Z.out.trans o);clear o;go_wp2_with fail;go_ret;exact⟨by rw[←J.out];rfl,H1.out⟩
 rw[ae R] at j;have Y:((k:Int)==0)=false:=by rw[bE];omega
 have J:=oH j;clear j;go_wp2_with fail;refine HF.out.mono ?_;rintro e w1 ⟨rfl,o⟩;have H1:=oH (Z.out.trans o);clear o;go_wp2_with fail;go_roundg (s.size+1-(pos+k));·exact⟨pos+k,f,rfl,by go_num,by omega,by omega,by omega,H1.out,J.out⟩
 omega)
 rw[qn C] at j;have J:=J2 l j;clear l j;go_wp2;go_ret;exact⟨by rw[←J.2];rfl,J.1⟩
def eP (s:ByteArray):Nat→Nat→Nat
 |0,_=>0
 |f+1,pos=>if pos<s.size then eP s f (pos+(Utf8.decode s pos).2)+1 else 0
theorem rm {s:ByteArray}{f pos:Nat}(h:¬pos<s.size):eP s (f+1) pos=0:=by simp[eP,h]
theorem pW {s:ByteArray}{f pos:Nat}(h:pos<s.size):eP s (f+1) pos=eP s f (pos+(Utf8.decode s pos).2)+1:=by simp[eP,h]
theorem DY (s:ByteArray)(w:World)(Y:s.size≤140737488355328):Calls prog 121 #[.string s] w fun e Z=>e=.returned (.int .i64 (eP s (s.size+1) 0:Nat))∧aa All w Z:=by
 go_enter func121,ntmps121;go_wp2;go_loopg [3,4] (s.size+1) (fun g m i wr=>∃pos f n:Nat,g=s.size+1-pos∧i=.int .i64 pos∧m=.int .i64 n∧n≤pos∧pos≤s.size+4∧s.size+1≤pos+f∧1≤f∧aa All w wr∧n+eP s f pos=eP s (s.size+1) 0);·exact⟨0,s.size+1,0,by omega,rfl,rfl,by omega,by omega,by omega,by omega,kR,by omega⟩
 obtain⟨pos,f,n,rfl,rfl,rfl,hn,a1,hf,a6,j,l⟩:=hrel;obtain⟨f,rfl⟩:∃f',f=f'+1:=⟨f-1,by omega⟩;by_cases o:pos<s.size
 ·rw[pW o] at l;have C:=yN s pos wr o Y;have h4:=rz s pos;have hp:=ks s pos o;have J:=J2 j l;clear j l;generalize (Utf8.decode s pos).2=k at*;have HF:=oH C;clear C;go_wp2_with fail;refine HF.out.mono ?_;rintro e w1 ⟨rfl,I⟩;have H1:=oH (J.1.trans I);clear I;go_wp2_with fail;go_roundg (s.size+1-(pos+k));·exact⟨pos+k,f,n+1,rfl,rfl,by go_num,by omega,by omega,by omega,by omega,H1.out,by have:=J.2;omega⟩
  omega
 rw[rm o] at l;have R:=J2 j l;clear j l;go_wp2;go_ret;exact⟨by rw[←R.2];rfl,R.1⟩
end Go.Proofs.YtceloincoomjeaaGreatDoor
