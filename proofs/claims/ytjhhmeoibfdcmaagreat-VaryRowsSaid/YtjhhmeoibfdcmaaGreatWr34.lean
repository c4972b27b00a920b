/- Lemmas. -/
import Derived.Test.YtjhhmeoibfdcmaaGreatWr20
import Derived.Test.YtjhhmeoibfdcmaaGreatWr28
set_option linter.unusedSimpArgs false
set_option linter.unusedVariables false
set_option maxRecDepth 100000
set_option maxHeartbeats 12800000
namespace Go.Proofs.YtjhhmeoibfdcmaaGreat
section
open Go.RowKit Qd
theorem bz (c:ar) (y:Int) (w:World) (r:Bool) (f:r=decide (c.first≤y∧y≤c.last)):Calls Tryz.prog 197 #[av c,y] w fun e h=>e=.returned (.bool r)∧Below w w h:=by
 simp only [av];subst f;go_enter Tryz.func197,Tryz.ntmps197;go_wp2
 all_goals (go_ret;refine ⟨aY ?_,by (repeat' exact bel)⟩;simp;try omega)
theorem vU (c:ar) (y t x:Int) (w:World) (I:c.name.size≤1000) (G:c.okB=false) :
  Calls Tryz.prog 132 #[av c,y,t,x] w fun e U=>e=.returned (.tuple #[.int .i64 0,.int .i64 1])∧Below w w U:=by
 have o:=hide (show co c=1 by simp [co,G]);clear G;simp only [av];go_enter Tryz.func132,Tryz.ntmps132;go_wp2_with fail;refine (aH c _ I).mono ?_;rintro e H ⟨rfl,f⟩;rw [o.out];have J:w.heap.size<H.heap.size:=aj f;have h:Hid (Below w w H):=ww f;have E:=hide (aa f ac (au w c));obtain ⟨V,W,q2,q3,q4,q5,q6,q7,q8,q9,O,R,S,T⟩:=E.out;clear f;have F:=h.out;go_wp2
 all_goals first
  | (exfalso;omega)
  | (go_ret2;exact ⟨rfl,by (repeat' exact bel)⟩)
  | (go_ret2;exact ⟨aw om (by first | rfl | omega),by (repeat' exact bel)⟩)
theorem wg (c:ar) (y t x:Int) (w:World) (O:c.name.size≤1000) (H:c.okB=true) (h:c.kind=6) :
  Calls Tryz.prog 132 #[av c,y,t,x] w fun e W=>e=.returned (.tuple #[.int .i64 0,.int .i64 1])∧Below w w W:=by
 have E:=hide (show co c=0 by simp [co,H]);have J:(c.kind==6)=true:=by simp [h]
 clear H h;simp only [av];go_enter Tryz.func132,Tryz.ntmps132;go_wp2_with fail;refine (aH c _ O).mono ?_;rintro e I ⟨rfl,f⟩;rw [E.out];have R:w.heap.size<I.heap.size:=aj f;have o:Hid (Below w w I):=ww f;have F:=hide (aa f ac (au w c));obtain ⟨q0,q1,q2,q3,q4,q5,q6,q7,q8,q9,S,T,U,V⟩:=F.out;clear f;have G:=o.out;go_wp2
 all_goals first
  | (exfalso;omega)
  | (go_ret2;exact ⟨rfl,by (repeat' exact bel)⟩)
  | (go_ret2;exact ⟨aw om (by first | rfl | omega),by (repeat' exact bel)⟩)
theorem A8 (c:ar) (y t x:Int) (w:World) (hn:c.name.size≤1000) (W:c.okB=true) (F:c.kind≠6) (hy:¬ dp c y) :
  Calls Tryz.prog 132 #[av c,y,t,x] w fun e w'=>e=.returned (.tuple #[.int .i64 0,.int .i64 11])∧Below w w w':=by
 have S:=hide (show co c=0 by simp [co,W]);have ab:(c.kind==6)=false:=by simpa using F
 have HY:=hide hy;clear W F hy;simp only [av];go_enter Tryz.func132,Tryz.ntmps132;go_wp2_with fail;refine (aH c _ hn).mono ?_;rintro e w1 ⟨rfl,f⟩;rw [S.out];have ad:w.heap.size<w1.heap.size:=aj f;have O:Hid (Below w w w1):=ww f;have E:=hide (aa f ac (au w c));obtain ⟨q0,q1,q2,q3,q4,q5,q6,q7,q8,q9,G,H,I,J⟩:=E.out;clear f;go_wp2_with fail;refine (bz c y _ false (by simp;have h:=HY.out;unfold dp at h;omega)).mono ?_;rintro e U ⟨rfl,o⟩;have ah:w.heap.size<U.heap.size:=aj o;have R:Hid (Below w w U):=ao O.out o;have T:Hid (aG U w c):=by have hp:=E.out;exact qq o
 clear q0 q1 q2 q3 q4 q5 q6 q7 q8 q9 G H I J;obtain ⟨q0,q1,q2,q3,q4,q5,q6,q7,q8,q9,G,H,I,J⟩:=T.out;clear o;have V:=R.out;go_wp2
 all_goals first
  | (exfalso;omega)
  | (go_ret2;exact ⟨rfl,by (repeat' exact bel)⟩)
  | (go_ret2;exact ⟨aw om (by first | rfl | omega),by (repeat' exact bel)⟩)
theorem Aq (c:ar) (y t x:Int) (w:World) (hn:c.name.size≤1000) (hk:c.okB=true) (R:c.kind≠6) (hy:dp c y) (ht:¬ dp c t) :
  Calls Tryz.prog 132 #[av c,y,t,x] w fun e w'=>e=.returned (.tuple #[.int .i64 0,.int .i64 11])∧Below w w w':=by
 have al:=hide (show co c=0 by simp [co,hk]);have aA:(c.kind==6)=false:=by simpa using R
 have HY:=hide hy;have HT:=hide ht;clear hk R hy ht;simp only [av];go_enter Tryz.func132,Tryz.ntmps132;go_wp2_with fail;refine (aH c _ hn).mono ?_;rintro e w1 ⟨rfl,f⟩;rw [al.out];have aB:w.heap.size<w1.heap.size:=aj f;have ab:Hid (Below w w w1):=ww f;have J:=hide (aa f ac (au w c));obtain ⟨S,T,U,V,W,q5,q6,q7,q8,q9,F,G,H,I⟩:=J.out;clear f;go_wp2_with fail;refine (bz c y _ true (by simp;have h:=HY.out;unfold dp at h;omega)).mono ?_;rintro e w2 ⟨rfl,o⟩;have aF:w.heap.size<w2.heap.size:=aj o;have ad:Hid (Below w w w2):=ao ab.out o;have O:Hid (aG w2 w c):=by have hp:=J.out;exact qq o
 clear S T U V W q5 q6 q7 q8 q9 F G H I;obtain ⟨S,T,U,V,W,q5,q6,q7,q8,q9,F,G,H,I⟩:=O.out;clear o;go_wp2_with fail;refine (bz c t _ false (by simp;have h:=HT.out;unfold dp at h;omega)).mono ?_;rintro e w3 ⟨rfl,E⟩;have a0:w.heap.size<w3.heap.size:=aj E;have ah:Hid (Below w w w3):=ao ad.out E;have aq:Hid (aG w3 w c):=by have hp:=O.out;exact qq E
 clear S T U V W q5 q6 q7 q8 q9 F G H I;obtain ⟨S,T,U,V,W,q5,q6,q7,q8,q9,F,G,H,I⟩:=aq.out;clear E;have ay:=ah.out;go_wp2
 all_goals first
  | (exfalso;omega)
  | (go_ret2;exact ⟨rfl,by (repeat' exact bel)⟩)
  | (go_ret2;exact ⟨aw om (by first | rfl | omega),by (repeat' exact bel)⟩)
theorem sJ (c:ar) (y t x:Int) (w:World) (hn:c.name.size≤1000) (hk:c.okB=true) (R:c.kind≠6) (hy:dp c y) (ht:dp c t) (hx:x<1∨(1≤x∧aL c y<x)) :
  Calls Tryz.prog 132 #[av c,y,t,x] w fun e w'=>e=.returned (.tuple #[.int .i64 0,.int .i64 13])∧Below w w w':=by
 have a2:=hide (show co c=0 by simp [co,hk]);have a5:(c.kind==6)=false:=by simpa using R
 obtain ⟨w1,w2,w3⟩:=bR hk R hy;obtain ⟨w4,w5,w6⟩:=bR hk R ht;obtain ⟨N,hN⟩:∃ N,aL c y=N:=⟨_,rfl⟩;obtain ⟨M,hM⟩:∃ N,aL c t=N:=⟨_,rfl⟩;rw [hN] at w3 hx;rw [hM] at w6;have ay:=hide (And.intro hN w1);have aq:=hide (And.intro hM w4);clear w1 w2 w4 w5 hN hM;have HY:=hide hy;have HT:=hide ht;clear hk R hy ht;rcases hx with hx | ⟨a6,hx⟩
 all_goals
  simp only [av];go_enter Tryz.func132,Tryz.ntmps132;go_wp2_with fail;refine (aH c _ hn).mono ?_;rintro e w1 ⟨rfl,G⟩;rw [a2.out];have a7:w.heap.size<w1.heap.size:=aj G;have aA:Hid (Below w w w1):=ww G;have ab:=hide (aa G ac (au w c));obtain ⟨S,T,U,V,W,q5,q6,q7,q8,q9,f,o,E,F⟩:=ab.out;clear G;go_wp2_with fail;refine (bz c y _ true (by simp;have h:=HY.out;unfold dp at h;omega)).mono ?_;rintro e w2 ⟨rfl,H⟩;have a8:w.heap.size<w2.heap.size:=aj H;have aB:Hid (Below w w w2):=ao aA.out H;have ad:Hid (aG w2 w c):=by have hp:=ab.out;exact qq H
  clear S T U V W q5 q6 q7 q8 q9 f o E F;obtain ⟨S,T,U,V,W,q5,q6,q7,q8,q9,f,o,E,F⟩:=ad.out;clear H;go_wp2_with fail;refine (bz c t _ true (by simp;have h:=HT.out;unfold dp at h;omega)).mono ?_;rintro e w3 ⟨rfl,I⟩;have ba:w.heap.size<w3.heap.size:=aj I;have aF:Hid (Below w w w3):=ao aB.out I;have ah:Hid (aG w3 w c):=by have hp:=ad.out;exact qq I
  clear S T U V W q5 q6 q7 q8 q9 f o E F;obtain ⟨S,T,U,V,W,q5,q6,q7,q8,q9,f,o,E,F⟩:=ah.out;clear I;go_wp2_with fail;refine (bq c y _ hn).mono ?_;rintro e w4 ⟨rfl,J⟩;rw [ay.out.1,ay.out.2];have bb:w.heap.size<w4.heap.size:=aj J;have a0:Hid (Below w w w4):=ao aF.out J;have al:Hid (aG w4 w c):=by have hp:=ah.out;exact qq J
  clear S T U V W q5 q6 q7 q8 q9 f o E F;obtain ⟨S,T,U,V,W,q5,q6,q7,q8,q9,f,o,E,F⟩:=al.out;clear J;go_wp2_with fail;refine (bq c t _ hn).mono ?_;rintro e w5 ⟨rfl,O⟩;rw [aq.out.1,aq.out.2];have bc:w.heap.size<w5.heap.size:=aj O;have a1:Hid (Below w w w5):=ao a0.out O;have a3:Hid (aG w5 w c):=by have hp:=al.out;exact qq O
  clear S T U V W q5 q6 q7 q8 q9 f o E F;obtain ⟨S,T,U,V,W,q5,q6,q7,q8,q9,f,o,E,F⟩:=a3.out;clear O;have a4:=a1.out;go_wp2
  all_goals first
   | (exfalso;omega)
   | (go_ret2;exact ⟨rfl,by (repeat' exact bel)⟩)
   | (go_ret2;exact ⟨aw om (by first | rfl | omega),by (repeat' exact bel)⟩)
theorem tU (c:ar) (y t x:Int) (w:World) (hn:c.name.size≤1000) (hk:c.okB=true) (R:c.kind≠6) (hy:dp c y) (ht:dp c t) (a7:1≤x) (hx:x≤aL c y) (hp:c.policy=1) :
  Calls Tryz.prog 132 #[av c,y,t,x] w fun e w'=>e=.returned (.tuple #[x,.int .i64 0])∧Below w w w':=by
 have a2:=hide (show co c=0 by simp [co,hk]);have a5:(c.kind==6)=false:=by simpa using R
 obtain ⟨w1,w2,w3⟩:=bR hk R hy;obtain ⟨w4,w5,w6⟩:=bR hk R ht;obtain ⟨N,hN⟩:∃ N,aL c y=N:=⟨_,rfl⟩;obtain ⟨M,hM⟩:∃ N,aL c t=N:=⟨_,rfl⟩;rw [hN] at w3 hx;rw [hM] at w6;have ay:=hide (And.intro hN w1);have aq:=hide (And.intro hM w4);clear w1 w2 w4 w5 hN hM;have HY:=hide hy;have HT:=hide ht;have a6:(c.policy==1)=true:=by simp [hp]
 clear hk R hy ht hp;simp only [av];go_enter Tryz.func132,Tryz.ntmps132;go_wp2_with fail;refine (aH c _ hn).mono ?_;rintro e w1 ⟨rfl,G⟩;rw [a2.out];have a8:w.heap.size<w1.heap.size:=aj G;have aA:Hid (Below w w w1):=ww G;have ab:=hide (aa G ac (au w c));obtain ⟨S,T,U,V,W,q5,q6,q7,q8,q9,f,o,E,F⟩:=ab.out;clear G;go_wp2_with fail;refine (bz c y _ true (by simp;have h:=HY.out;unfold dp at h;omega)).mono ?_;rintro e w2 ⟨rfl,H⟩;have ba:w.heap.size<w2.heap.size:=aj H;have aB:Hid (Below w w w2):=ao aA.out H;have ad:Hid (aG w2 w c):=by have hp:=ab.out;exact qq H
 clear S T U V W q5 q6 q7 q8 q9 f o E F;obtain ⟨S,T,U,V,W,q5,q6,q7,q8,q9,f,o,E,F⟩:=ad.out;clear H;go_wp2_with fail;refine (bz c t _ true (by simp;have h:=HT.out;unfold dp at h;omega)).mono ?_;rintro e w3 ⟨rfl,I⟩;have bb:w.heap.size<w3.heap.size:=aj I;have aF:Hid (Below w w w3):=ao aB.out I;have ah:Hid (aG w3 w c):=by have hp:=ad.out;exact qq I
 clear S T U V W q5 q6 q7 q8 q9 f o E F;obtain ⟨S,T,U,V,W,q5,q6,q7,q8,q9,f,o,E,F⟩:=ah.out;clear I;go_wp2_with fail;refine (bq c y _ hn).mono ?_;rintro e w4 ⟨rfl,J⟩;rw [ay.out.1,ay.out.2];have bc:w.heap.size<w4.heap.size:=aj J;have a0:Hid (Below w w w4):=ao aF.out J;have al:Hid (aG w4 w c):=by have hp:=ah.out;exact qq J
 clear S T U V W q5 q6 q7 q8 q9 f o E F;obtain ⟨S,T,U,V,W,q5,q6,q7,q8,q9,f,o,E,F⟩:=al.out;clear J;go_wp2_with fail;refine (bq c t _ hn).mono ?_;rintro e w5 ⟨rfl,O⟩;rw [aq.out.1,aq.out.2];have bd:w.heap.size<w5.heap.size:=aj O;have a1:Hid (Below w w w5):=ao a0.out O;have a3:Hid (aG w5 w c):=by have hp:=al.out;exact qq O
 clear S T U V W q5 q6 q7 q8 q9 f o E F;obtain ⟨S,T,U,V,W,q5,q6,q7,q8,q9,f,o,E,F⟩:=a3.out;clear O;have a4:=a1.out;go_wp2
 all_goals first
  | (exfalso;omega)
  | (go_ret2;exact ⟨rfl,by (repeat' exact bel)⟩)
  | (go_ret2;exact ⟨aw om (by first | rfl | omega),by (repeat' exact bel)⟩)
theorem qS (c:ar) (y t x:Int) (w:World) (hn:c.name.size≤1000) (hk:c.okB=true) (R:c.kind≠6) (hy:dp c y) (ht:dp c t) (a8:1≤x) (hx:x≤aL c y) (hp:c.policy=2) :
  Calls Tryz.prog 132 #[av c,y,t,x] w fun e w'=>e=.returned (.tuple #[.int .i64 (x+aL c t-aL c y),.int .i64 0])∧Below w w w':=by
 have a2:=hide (show co c=0 by simp [co,hk]);have a6:(c.kind==6)=false:=by simpa using R
 obtain ⟨w1,w2,w3⟩:=bR hk R hy;obtain ⟨w4,w5,w6⟩:=bR hk R ht;obtain ⟨N,hN⟩:∃ N,aL c y=N:=⟨_,rfl⟩;obtain ⟨M,hM⟩:∃ N,aL c t=N:=⟨_,rfl⟩;rw [hN] at w3 hx ⊢;rw [hM] at w6 ⊢;have ay:=hide (And.intro hN w1);have aq:=hide (And.intro hM w4);clear w1 w2 w4 w5 hN hM;have HY:=hide hy;have HT:=hide ht;have a7:(c.policy==1)=false:=by simp [hp]
 have a5:(c.policy==2)=true:=by simp [hp]
 clear hk R hy ht hp;simp only [av];go_enter Tryz.func132,Tryz.ntmps132;go_wp2_with fail;refine (aH c _ hn).mono ?_;rintro e w1 ⟨rfl,G⟩;rw [a2.out];have ba:w.heap.size<w1.heap.size:=aj G;have aA:Hid (Below w w w1):=ww G;have ab:=hide (aa G ac (au w c));obtain ⟨S,T,U,V,W,q5,q6,q7,q8,q9,f,o,E,F⟩:=ab.out;clear G;go_wp2_with fail;refine (bz c y _ true (by simp;have h:=HY.out;unfold dp at h;omega)).mono ?_;rintro e w2 ⟨rfl,H⟩;have bb:w.heap.size<w2.heap.size:=aj H;have aB:Hid (Below w w w2):=ao aA.out H;have ad:Hid (aG w2 w c):=by have hp:=ab.out;exact qq H
 clear S T U V W q5 q6 q7 q8 q9 f o E F;obtain ⟨S,T,U,V,W,q5,q6,q7,q8,q9,f,o,E,F⟩:=ad.out;clear H;go_wp2_with fail;refine (bz c t _ true (by simp;have h:=HT.out;unfold dp at h;omega)).mono ?_;rintro e w3 ⟨rfl,I⟩;have bc:w.heap.size<w3.heap.size:=aj I;have aF:Hid (Below w w w3):=ao aB.out I;have ah:Hid (aG w3 w c):=by have hp:=ad.out;exact qq I
 clear S T U V W q5 q6 q7 q8 q9 f o E F;obtain ⟨S,T,U,V,W,q5,q6,q7,q8,q9,f,o,E,F⟩:=ah.out;clear I;go_wp2_with fail;refine (bq c y _ hn).mono ?_;rintro e w4 ⟨rfl,J⟩;rw [ay.out.1,ay.out.2];have bd:w.heap.size<w4.heap.size:=aj J;have a0:Hid (Below w w w4):=ao aF.out J;have al:Hid (aG w4 w c):=by have hp:=ah.out;exact qq J
 clear S T U V W q5 q6 q7 q8 q9 f o E F;obtain ⟨S,T,U,V,W,q5,q6,q7,q8,q9,f,o,E,F⟩:=al.out;clear J;go_wp2_with fail;refine (bq c t _ hn).mono ?_;rintro e w5 ⟨rfl,O⟩;rw [aq.out.1,aq.out.2];have bh:w.heap.size<w5.heap.size:=aj O;have a1:Hid (Below w w w5):=ao a0.out O;have a3:Hid (aG w5 w c):=by have hp:=al.out;exact qq O
 clear S T U V W q5 q6 q7 q8 q9 f o E F;obtain ⟨S,T,U,V,W,q5,q6,q7,q8,q9,f,o,E,F⟩:=a3.out;clear O;have a4:=a1.out;go_wp2
 all_goals first
  | (exfalso;omega)
  | (go_ret2;exact ⟨rfl,by (repeat' exact bel)⟩)
  | (go_ret2;exact ⟨aw om (by first | rfl | omega),by (repeat' exact bel)⟩)
theorem qY (c:ar) (y t x:Int) (w:World) (hn:c.name.size≤1000) (hk:c.okB=true) (a0:c.kind≠6) (hy:dp c y) (ht:dp c t) (bX:1≤x) (hx:x≤aL c y) (hp:c.policy=3) (b0:x=aD c y) :
  Calls Tryz.prog 132 #[av c,y,t,x] w fun e w'=>e=.returned (.tuple #[.int .i64 (if aD c t=0 then 0 else aD c t),.int .i64 (if aD c t=0 then 12 else 0)])∧Below w w w':=by
 have bw:=hide (show co c=0 by simp [co,hk]);have cl:(c.kind==6)=false:=by simpa using a0
 obtain ⟨w1,w2,w3⟩:=bR hk a0 hy;obtain ⟨w4,w5,w6⟩:=bR hk a0 ht;obtain ⟨N,hN⟩:∃ N,aL c y=N:=⟨_,rfl⟩;obtain ⟨M,hM⟩:∃ N,aL c t=N:=⟨_,rfl⟩;rw [hN] at w3 hx;rw [hM] at w6;have aF:=hide (And.intro hN w1);have aB:=hide (And.intro hM w4);clear w1 w2 w4 w5 hN hM;rw [b0] at bX hx ⊢;clear b0 x;obtain ⟨a1,a2,_⟩:=ck hk a0 hy;obtain ⟨b1,b2,_⟩:=ck hk a0 ht;obtain ⟨a,ha⟩:∃ a,aD c y=a:=⟨_,rfl⟩;obtain ⟨b,hb⟩:∃ b,aD c t=b:=⟨_,rfl⟩;rw [ha] at a1 a2 bX hx ⊢;rw [hb] at b1 b2 ⊢;have HA:=hide ha;have HB:=hide hb;have HY:=hide hy;have HT:=hide ht;have cp:(c.policy==1)=false:=by simp [hp]
 have cb:(c.policy==2)=false:=by simp [hp]
 clear hk a0 hy ht hp ha hb;by_cases W:b=0
 ·rw [if_pos W,if_pos W]
  have b3:(b==0)=true:=by simp [W]
  have cc:=hide W;clear W;simp only [av];go_enter Tryz.func132,Tryz.ntmps132;go_wp2_with fail;refine (aH c _ hn).mono ?_;rintro e w1 ⟨rfl,ab⟩;rw [bw.out];have b4:w.heap.size<w1.heap.size:=aj ab;have ba:Hid (Below w w w1):=ww ab;have a3:=hide (aa ab ac (au w c));obtain ⟨G,H,I,J,O,R,S,T,U,V,f,o,E,F⟩:=a3.out;clear ab;go_wp2_with fail;refine (bz c y _ true (by simp;have h:=HY.out;unfold dp at h;omega)).mono ?_;rintro e w2 ⟨rfl,ad⟩;have b5:w.heap.size<w2.heap.size:=aj ad;have bb:Hid (Below w w w2):=ao ba.out ad;have a4:Hid (aG w2 w c):=by have hp:=a3.out;exact qq ad
  clear G H I J O R S T U V f o E F;obtain ⟨G,H,I,J,O,R,S,T,U,V,f,o,E,F⟩:=a4.out;clear ad;go_wp2_with fail;refine (bz c t _ true (by simp;have h:=HT.out;unfold dp at h;omega)).mono ?_;rintro e w3 ⟨rfl,ah⟩;have b6:w.heap.size<w3.heap.size:=aj ah;have bc:Hid (Below w w w3):=ao bb.out ah;have a5:Hid (aG w3 w c):=by have hp:=a4.out;exact qq ah
  clear G H I J O R S T U V f o E F;obtain ⟨G,H,I,J,O,R,S,T,U,V,f,o,E,F⟩:=a5.out;clear ah;go_wp2_with fail;refine (bq c y _ hn).mono ?_;rintro e w4 ⟨rfl,al⟩;rw [aF.out.1,aF.out.2];have b7:w.heap.size<w4.heap.size:=aj al;have bd:Hid (Below w w w4):=ao bc.out al;have a6:Hid (aG w4 w c):=by have hp:=a5.out;exact qq al
  clear G H I J O R S T U V f o E F;obtain ⟨G,H,I,J,O,R,S,T,U,V,f,o,E,F⟩:=a6.out;clear al;go_wp2_with fail;refine (bq c t _ hn).mono ?_;rintro e w5 ⟨rfl,aq⟩;rw [aB.out.1,aB.out.2];have b8:w.heap.size<w5.heap.size:=aj aq;have bh:Hid (Below w w w5):=ao bd.out aq;have a7:Hid (aG w5 w c):=by have hp:=a6.out;exact qq aq
  clear G H I J O R S T U V f o E F;obtain ⟨G,H,I,J,O,R,S,T,U,V,f,o,E,F⟩:=a7.out;clear aq;go_wp2_with fail
  all_goals first
   | (exfalso;omega)
   | skip
  refine (cX c y _ hn).mono ?_;rintro e w6 ⟨rfl,ay⟩;rw [HA.out,aF.out.2];have b9:w.heap.size<w6.heap.size:=aj ay;have bl:Hid (Below w w w6):=ao bh.out ay;have a8:Hid (aG w6 w c):=by have hp:=a7.out;exact qq ay
  clear G H I J O R S T U V f o E F;obtain ⟨G,H,I,J,O,R,S,T,U,V,f,o,E,F⟩:=a8.out;clear ay;go_wp2_with fail;refine (cX c t _ hn).mono ?_;rintro e w7 ⟨rfl,aA⟩;rw [HB.out,aB.out.2];have ca:w.heap.size<w7.heap.size:=aj aA;have bp:Hid (Below w w w7):=ao bl.out aA;have bt:Hid (aG w7 w c):=by have hp:=a8.out;exact qq aA
  clear G H I J O R S T U V f o E F;obtain ⟨G,H,I,J,O,R,S,T,U,V,f,o,E,F⟩:=bt.out;clear aA;have bx:=bp.out;go_wp2
  all_goals first
   | (exfalso;omega)
   | (go_ret2;exact ⟨rfl,by (repeat' exact bel)⟩)
   | (go_ret2;exact ⟨aw om (by first | rfl | omega),by (repeat' exact bel)⟩)
 ·rw [if_neg W,if_neg W]
  have b3:(b==0)=false:=by simpa using W
  clear W;simp only [av];go_enter Tryz.func132,Tryz.ntmps132;go_wp2_with fail;refine (aH c _ hn).mono ?_;rintro e w1 ⟨rfl,ab⟩;rw [bw.out];have b4:w.heap.size<w1.heap.size:=aj ab;have ba:Hid (Below w w w1):=ww ab;have a3:=hide (aa ab ac (au w c));obtain ⟨G,H,I,J,O,R,S,T,U,V,f,o,E,F⟩:=a3.out;clear ab;go_wp2_with fail;refine (bz c y _ true (by simp;have h:=HY.out;unfold dp at h;omega)).mono ?_;rintro e w2 ⟨rfl,ad⟩;have b5:w.heap.size<w2.heap.size:=aj ad;have bb:Hid (Below w w w2):=ao ba.out ad;have a4:Hid (aG w2 w c):=by have hp:=a3.out;exact qq ad
  clear G H I J O R S T U V f o E F;obtain ⟨G,H,I,J,O,R,S,T,U,V,f,o,E,F⟩:=a4.out;clear ad;go_wp2_with fail;refine (bz c t _ true (by simp;have h:=HT.out;unfold dp at h;omega)).mono ?_;rintro e w3 ⟨rfl,ah⟩;have b6:w.heap.size<w3.heap.size:=aj ah;have bc:Hid (Below w w w3):=ao bb.out ah;have a5:Hid (aG w3 w c):=by have hp:=a4.out;exact qq ah
  clear G H I J O R S T U V f o E F;obtain ⟨G,H,I,J,O,R,S,T,U,V,f,o,E,F⟩:=a5.out;clear ah;go_wp2_with fail;refine (bq c y _ hn).mono ?_;rintro e w4 ⟨rfl,al⟩;rw [aF.out.1,aF.out.2];have b7:w.heap.size<w4.heap.size:=aj al;have bd:Hid (Below w w w4):=ao bc.out al;have a6:Hid (aG w4 w c):=by have hp:=a5.out;exact qq al
  clear G H I J O R S T U V f o E F;obtain ⟨G,H,I,J,O,R,S,T,U,V,f,o,E,F⟩:=a6.out;clear al;go_wp2_with fail;refine (bq c t _ hn).mono ?_;rintro e w5 ⟨rfl,aq⟩;rw [aB.out.1,aB.out.2];have b8:w.heap.size<w5.heap.size:=aj aq;have bh:Hid (Below w w w5):=ao bd.out aq;have a7:Hid (aG w5 w c):=by have hp:=a6.out;exact qq aq
  clear G H I J O R S T U V f o E F;obtain ⟨G,H,I,J,O,R,S,T,U,V,f,o,E,F⟩:=a7.out;clear aq;go_wp2_with fail
  all_goals first
   | (exfalso;omega)
   | skip
  refine (cX c y _ hn).mono ?_;rintro e w6 ⟨rfl,ay⟩;rw [HA.out,aF.out.2];have b9:w.heap.size<w6.heap.size:=aj ay;have bl:Hid (Below w w w6):=ao bh.out ay;have a8:Hid (aG w6 w c):=by have hp:=a7.out;exact qq ay
  clear G H I J O R S T U V f o E F;obtain ⟨G,H,I,J,O,R,S,T,U,V,f,o,E,F⟩:=a8.out;clear ay;go_wp2_with fail;refine (cX c t _ hn).mono ?_;rintro e w7 ⟨rfl,aA⟩;rw [HB.out,aB.out.2];have ca:w.heap.size<w7.heap.size:=aj aA;have bp:Hid (Below w w w7):=ao bl.out aA;have bt:Hid (aG w7 w c):=by have hp:=a8.out;exact qq aA
  clear G H I J O R S T U V f o E F;obtain ⟨G,H,I,J,O,R,S,T,U,V,f,o,E,F⟩:=bt.out;clear aA;have bx:=bp.out;go_wp2
  all_goals first
   | (exfalso;omega)
   | (go_ret2;exact ⟨rfl,by (repeat' exact bel)⟩)
   | (go_ret2;exact ⟨aw om (by first | rfl | omega),by (repeat' exact bel)⟩)
end
end Go.Proofs.YtjhhmeoibfdcmaaGreat
