/- Lemmas. -/
import Derived.Test.YtjhhmeoibfdcmaaGreatWr34
set_option linter.unusedSimpArgs false
set_option linter.unusedVariables false
set_option maxRecDepth 100000
set_option maxHeartbeats 12800000
namespace Go.Proofs.YtjhhmeoibfdcmaaGreat
section
open Go.RowKit Qd
theorem qW (c:ar) (y t x:Int) (w:World) (hn:c.name.size≤1000) (hk:c.okB=true) (I:c.kind≠6) (hy:dp c y) (ht:dp c t) (c3:1≤x) (hx:x≤aL c y) (hp:c.policy=3) (H:¬ x=aD c y) (bc:0<aD c y) (bd:aD c y<x) :
  Calls Tryz.prog 132 #[av c,y,t,x] w fun e w'=>e=.returned (.tuple #[cJ (aD c y) (aD c t) x,.int .i64 0])∧Below w w w':=by
 have b3:=hide (show co c=0 by simp [co,hk]);have cS:(c.kind==6)=false:=by simpa using I
 obtain ⟨w1,w2,w3⟩:=bR hk I hy;obtain ⟨w4,w5,w6⟩:=bR hk I ht;obtain ⟨N,hN⟩:∃ N,aL c y=N:=⟨_,rfl⟩;obtain ⟨M,hM⟩:∃ N,aL c t=N:=⟨_,rfl⟩;rw [hN] at w3 hx;rw [hM] at w6;have a3:=hide (And.intro hN w1);have a0:=hide (And.intro hM w4);clear w1 w2 w4 w5 hN hM;obtain ⟨a1,a2,_⟩:=ck hk I hy;obtain ⟨b1,b2,_⟩:=ck hk I ht;obtain ⟨a,ha⟩:∃ a,aD c y=a:=⟨_,rfl⟩;obtain ⟨b,hb⟩:∃ b,aD c t=b:=⟨_,rfl⟩;rw [ha] at a1 a2 H bc bd ⊢;rw [hb] at b1 b2 ⊢;have HA:=hide ha;have HB:=hide hb;have HY:=hide hy;have HT:=hide ht;have c0:(c.policy==1)=false:=by simp [hp]
 have cp:(c.policy==2)=false:=by simp [hp]
 clear hk I hy ht hp ha hb;have cy:(x==a)=false:=by simpa using H
 have b7:=hide H;obtain ⟨r,hr⟩:∃ r,r=x-1:=⟨_,rfl⟩;have HR:=hide (show (if 0<a∧a<x then x-1 else x)=r by rw [if_pos ⟨bc,bd⟩,hr]);have ca:1≤r∧r≤53:=om;obtain ⟨cr,cs⟩:=ca;have b5:=hide hr;clear H hr;simp only [av];go_enter Tryz.func132,Tryz.ntmps132;go_wp2_with fail;refine (aH c _ hn).mono ?_;rintro e w1 ⟨rfl,ab⟩;rw [b3.out];have c4:w.heap.size<w1.heap.size:=aj ab;have bl:Hid (Below w w w1):=ww ab;have a5:=hide (aa ab ac (au w c));obtain ⟨J,O,R,S,T,U,V,W,q8,q9,f,o,E,F⟩:=a5.out;clear ab;go_wp2_with fail;refine (bz c y _ true (by simp;have h:=HY.out;unfold dp at h;omega)).mono ?_;rintro e w2 ⟨rfl,ad⟩;have c5:w.heap.size<w2.heap.size:=aj ad;have bp:Hid (Below w w w2):=ao bl.out ad;have a6:Hid (aG w2 w c):=by have hp:=a5.out;exact qq ad
 clear J O R S T U V W q8 q9 f o E F;obtain ⟨J,O,R,S,T,U,V,W,q8,q9,f,o,E,F⟩:=a6.out;clear ad;go_wp2_with fail;refine (bz c t _ true (by simp;have h:=HT.out;unfold dp at h;omega)).mono ?_;rintro e w3 ⟨rfl,ah⟩;have c6:w.heap.size<w3.heap.size:=aj ah;have bt:Hid (Below w w w3):=ao bp.out ah;have a7:Hid (aG w3 w c):=by have hp:=a6.out;exact qq ah
 clear J O R S T U V W q8 q9 f o E F;obtain ⟨J,O,R,S,T,U,V,W,q8,q9,f,o,E,F⟩:=a7.out;clear ah;go_wp2_with fail;refine (bq c y _ hn).mono ?_;rintro e w4 ⟨rfl,al⟩;rw [a3.out.1,a3.out.2];have c7:w.heap.size<w4.heap.size:=aj al;have bw:Hid (Below w w w4):=ao bt.out al;have a8:Hid (aG w4 w c):=by have hp:=a7.out;exact qq al
 clear J O R S T U V W q8 q9 f o E F;obtain ⟨J,O,R,S,T,U,V,W,q8,q9,f,o,E,F⟩:=a8.out;clear al;go_wp2_with fail;refine (bq c t _ hn).mono ?_;rintro e w5 ⟨rfl,aq⟩;rw [a0.out.1,a0.out.2];have c8:w.heap.size<w5.heap.size:=aj aq;have bx:Hid (Below w w w5):=ao bw.out aq;have ba:Hid (aG w5 w c):=by have hp:=a8.out;exact qq aq
 clear J O R S T U V W q8 q9 f o E F;obtain ⟨J,O,R,S,T,U,V,W,q8,q9,f,o,E,F⟩:=ba.out;clear aq;go_wp2_with fail
 all_goals first
  | (exfalso;omega)
  | skip
 refine (cX c y _ hn).mono ?_;rintro e w6 ⟨rfl,ay⟩;rw [HA.out,a3.out.2];have c9:w.heap.size<w6.heap.size:=aj ay;have bX:Hid (Below w w w6):=ao bx.out ay;have bb:Hid (aG w6 w c):=by have hp:=ba.out;exact qq ay
 clear J O R S T U V W q8 q9 f o E F;obtain ⟨J,O,R,S,T,U,V,W,q8,q9,f,o,E,F⟩:=bb.out;clear ay;go_wp2_with fail;refine (cX c t _ hn).mono ?_;rintro e w7 ⟨rfl,aA⟩;rw [HB.out,a0.out.2];have dd:w.heap.size<w7.heap.size:=aj aA;have b0:Hid (Below w w w7):=ao bX.out aA;have b4:Hid (aG w7 w c):=by have hp:=bb.out;exact qq aA
 clear J O R S T U V W q8 q9 f o E F;obtain ⟨J,O,R,S,T,U,V,W,q8,q9,f,o,E,F⟩:=b4.out;clear aA;go_wp2_with fail
 all_goals first
  | (exfalso;omega)
  | skip
 go_loop [18,19] (fun cb cc=>∃ v h:Int,cc=.int .i64 v∧cb=.int .i64 h∧1≤v∧v≤60∧0≤h∧h≤60∧((h=r-v∧(b=0∨v≤b))∨(h=r-v+1∧0<b∧b<v))) (fun _ s=>(100-intOf s).toNat)
 case atStart=>exact ⟨1,r-1,rfl,by have:=b5.out;congr 1;omega,by omega,by omega,by omega,by omega,.inl ⟨rfl,by omega⟩⟩
 case round =>
  obtain ⟨v,h,rfl,rfl,c1,c2,cE,cI,G⟩:=hrel;by_cases aB:v=b
  ·subst aB
   have hd:=G;have HD:=hide hd;clear G hd;go_wp2;go_round
   case rel=>exact ⟨v+1,h,rfl,rfl,by omega,by have:=HD.out;omega,by omega,by omega,by have:=HD.out;omega⟩
   case measure=>simp [intOf];omega
  ·have bh:(v==b)=false:=by simpa using aB
   have HD:=hide G;by_cases a4:h=0
   ·subst a4
    have HV:=hide (show cJ a b x=v by
     have:=HD.out;unfold cJ;rw [if_neg b7.out];have b9:=HR.out;rw [b9]
     split <;> omega)
    clear G aB;have cl:=b0.out;go_wp2
    all_goals first
     | (exfalso;omega)
     | (go_ret2;exact ⟨aw HV.out.symm rfl,by (repeat' exact bel)⟩)
   ·have b8:(h==0)=false:=by simpa using a4
    clear G aB a4;have cM:1≤h:=by
     have h5:¬ h=0:=by simpa using b8
     omega
    have aF:¬ v=b:=by simpa using bh
    have b6:=hide aF;clear aF;go_wp2;go_round
    case rel=>exact ⟨v+1,h-1,rfl,rfl,by omega,by have:=HD.out;omega,by omega,by omega,by have h7:=HD.out;have h5:=b6.out;omega⟩
    case measure=>simp [intOf];omega
theorem qU (c:ar) (y t x:Int) (w:World) (hn:c.name.size≤1000) (hk:c.okB=true) (I:c.kind≠6) (hy:dp c y) (ht:dp c t) (c2:1≤x) (hx:x≤aL c y) (hp:c.policy=3) (H:¬ x=aD c y) (b8:aD c y≤0) :
  Calls Tryz.prog 132 #[av c,y,t,x] w fun e w'=>e=.returned (.tuple #[cJ (aD c y) (aD c t) x,.int .i64 0])∧Below w w w':=by
 have bX:=hide (show co c=0 by simp [co,hk]);have cM:(c.kind==6)=false:=by simpa using I
 obtain ⟨w1,w2,w3⟩:=bR hk I hy;obtain ⟨w4,w5,w6⟩:=bR hk I ht;obtain ⟨N,hN⟩:∃ N,aL c y=N:=⟨_,rfl⟩;obtain ⟨M,hM⟩:∃ N,aL c t=N:=⟨_,rfl⟩;rw [hN] at w3 hx;rw [hM] at w6;have a3:=hide (And.intro hN w1);have a0:=hide (And.intro hM w4);clear w1 w2 w4 w5 hN hM;obtain ⟨a1,a2,_⟩:=ck hk I hy;obtain ⟨b1,b2,_⟩:=ck hk I ht;obtain ⟨a,ha⟩:∃ a,aD c y=a:=⟨_,rfl⟩;obtain ⟨b,hb⟩:∃ b,aD c t=b:=⟨_,rfl⟩;rw [ha] at a1 a2 H b8 ⊢;rw [hb] at b1 b2 ⊢;have HA:=hide ha;have HB:=hide hb;have HY:=hide hy;have HT:=hide ht;have cS:(c.policy==1)=false:=by simp [hp]
 have cl:(c.policy==2)=false:=by simp [hp]
 clear hk I hy ht hp ha hb;have cs:(x==a)=false:=by simpa using H
 have b5:=hide H;obtain ⟨r,hr⟩:∃ r,r=x:=⟨_,rfl⟩;have HR:=hide (show (if 0<a∧a<x then x-1 else x)=r by rw [if_neg om,hr]);have b9:1≤r∧r≤53:=om;obtain ⟨cp,cr⟩:=b9;have b3:=hide hr;clear H hr;simp only [av];go_enter Tryz.func132,Tryz.ntmps132;go_wp2_with fail;refine (aH c _ hn).mono ?_;rintro e w1 ⟨rfl,ab⟩;rw [bX.out];have c3:w.heap.size<w1.heap.size:=aj ab;have bd:Hid (Below w w w1):=ww ab;have a5:=hide (aa ab ac (au w c));obtain ⟨J,O,R,S,T,U,V,W,q8,q9,f,o,E,F⟩:=a5.out;clear ab;go_wp2_with fail;refine (bz c y _ true (by simp;have h:=HY.out;unfold dp at h;omega)).mono ?_;rintro e w2 ⟨rfl,ad⟩;have c4:w.heap.size<w2.heap.size:=aj ad;have bh:Hid (Below w w w2):=ao bd.out ad;have a6:Hid (aG w2 w c):=by have hp:=a5.out;exact qq ad
 clear J O R S T U V W q8 q9 f o E F;obtain ⟨J,O,R,S,T,U,V,W,q8,q9,f,o,E,F⟩:=a6.out;clear ad;go_wp2_with fail;refine (bz c t _ true (by simp;have h:=HT.out;unfold dp at h;omega)).mono ?_;rintro e w3 ⟨rfl,ah⟩;have c5:w.heap.size<w3.heap.size:=aj ah;have bl:Hid (Below w w w3):=ao bh.out ah;have a7:Hid (aG w3 w c):=by have hp:=a6.out;exact qq ah
 clear J O R S T U V W q8 q9 f o E F;obtain ⟨J,O,R,S,T,U,V,W,q8,q9,f,o,E,F⟩:=a7.out;clear ah;go_wp2_with fail;refine (bq c y _ hn).mono ?_;rintro e w4 ⟨rfl,al⟩;rw [a3.out.1,a3.out.2];have c6:w.heap.size<w4.heap.size:=aj al;have bp:Hid (Below w w w4):=ao bl.out al;have a8:Hid (aG w4 w c):=by have hp:=a7.out;exact qq al
 clear J O R S T U V W q8 q9 f o E F;obtain ⟨J,O,R,S,T,U,V,W,q8,q9,f,o,E,F⟩:=a8.out;clear al;go_wp2_with fail;refine (bq c t _ hn).mono ?_;rintro e w5 ⟨rfl,aq⟩;rw [a0.out.1,a0.out.2];have c7:w.heap.size<w5.heap.size:=aj aq;have bt:Hid (Below w w w5):=ao bp.out aq;have ba:Hid (aG w5 w c):=by have hp:=a8.out;exact qq aq
 clear J O R S T U V W q8 q9 f o E F;obtain ⟨J,O,R,S,T,U,V,W,q8,q9,f,o,E,F⟩:=ba.out;clear aq;go_wp2_with fail
 all_goals first
  | (exfalso;omega)
  | skip
 refine (cX c y _ hn).mono ?_;rintro e w6 ⟨rfl,ay⟩;rw [HA.out,a3.out.2];have c8:w.heap.size<w6.heap.size:=aj ay;have bw:Hid (Below w w w6):=ao bt.out ay;have bb:Hid (aG w6 w c):=by have hp:=ba.out;exact qq ay
 clear J O R S T U V W q8 q9 f o E F;obtain ⟨J,O,R,S,T,U,V,W,q8,q9,f,o,E,F⟩:=bb.out;clear ay;go_wp2_with fail;refine (cX c t _ hn).mono ?_;rintro e w7 ⟨rfl,aA⟩;rw [HB.out,a0.out.2];have c9:w.heap.size<w7.heap.size:=aj aA;have bx:Hid (Below w w w7):=ao bw.out aA;have b0:Hid (aG w7 w c):=by have hp:=bb.out;exact qq aA
 clear J O R S T U V W q8 q9 f o E F;obtain ⟨J,O,R,S,T,U,V,W,q8,q9,f,o,E,F⟩:=b0.out;clear aA;go_wp2_with fail
 all_goals first
  | (exfalso;omega)
  | skip
 go_loop [18,19] (fun ca cb=>∃ v h:Int,cb=.int .i64 v∧ca=.int .i64 h∧1≤v∧v≤60∧0≤h∧h≤60∧((h=r-v∧(b=0∨v≤b))∨(h=r-v+1∧0<b∧b<v))) (fun _ s=>(100-intOf s).toNat)
 case atStart=>exact ⟨1,r-1,rfl,by have:=b3.out;congr 1;omega,by omega,by omega,by omega,by omega,.inl ⟨rfl,by omega⟩⟩
 case round =>
  obtain ⟨v,h,rfl,rfl,c0,c1,cy,cE,G⟩:=hrel;by_cases aB:v=b
  ·subst aB
   have hd:=G;have HD:=hide hd;clear G hd;go_wp2;go_round
   case rel=>exact ⟨v+1,h,rfl,rfl,by omega,by have:=HD.out;omega,by omega,by omega,by have:=HD.out;omega⟩
   case measure=>simp [intOf];omega
  ·have bc:(v==b)=false:=by simpa using aB
   have HD:=hide G;by_cases a4:h=0
   ·subst a4
    have HV:=hide (show cJ a b x=v by
     have:=HD.out;unfold cJ;rw [if_neg b5.out];have b7:=HR.out;rw [b7]
     split <;> omega)
    clear G aB;have cc:=bx.out;go_wp2
    all_goals first
     | (exfalso;omega)
     | (go_ret2;exact ⟨aw HV.out.symm rfl,by (repeat' exact bel)⟩)
   ·have b6:(h==0)=false:=by simpa using a4
    clear G aB a4;have cI:1≤h:=by
     have h5:¬ h=0:=by simpa using b6
     omega
    have aF:¬ v=b:=by simpa using bc
    have b4:=hide aF;clear aF;go_wp2;go_round
    case rel=>exact ⟨v+1,h-1,rfl,rfl,by omega,by have:=HD.out;omega,by omega,by omega,by have h7:=HD.out;have h5:=b4.out;omega⟩
    case measure=>simp [intOf];omega
theorem qT (c:ar) (y t x:Int) (w:World) (hn:c.name.size≤1000) (hk:c.okB=true) (I:c.kind≠6) (hy:dp c y) (ht:dp c t) (c3:1≤x) (hx:x≤aL c y) (hp:c.policy=3) (H:¬ x=aD c y) (b8:0<aD c y) (b9:x<aD c y) :
  Calls Tryz.prog 132 #[av c,y,t,x] w fun e w'=>e=.returned (.tuple #[cJ (aD c y) (aD c t) x,.int .i64 0])∧Below w w w':=by
 have bX:=hide (show co c=0 by simp [co,hk]);have cS:(c.kind==6)=false:=by simpa using I
 obtain ⟨w1,w2,w3⟩:=bR hk I hy;obtain ⟨w4,w5,w6⟩:=bR hk I ht;obtain ⟨N,hN⟩:∃ N,aL c y=N:=⟨_,rfl⟩;obtain ⟨M,hM⟩:∃ N,aL c t=N:=⟨_,rfl⟩;rw [hN] at w3 hx;rw [hM] at w6;have a3:=hide (And.intro hN w1);have a0:=hide (And.intro hM w4);clear w1 w2 w4 w5 hN hM;obtain ⟨a1,a2,_⟩:=ck hk I hy;obtain ⟨b1,b2,_⟩:=ck hk I ht;obtain ⟨a,ha⟩:∃ a,aD c y=a:=⟨_,rfl⟩;obtain ⟨b,hb⟩:∃ b,aD c t=b:=⟨_,rfl⟩;rw [ha] at a1 a2 H b8 b9 ⊢;rw [hb] at b1 b2 ⊢;have HA:=hide ha;have HB:=hide hb;have HY:=hide hy;have HT:=hide ht;have c0:(c.policy==1)=false:=by simp [hp]
 have cp:(c.policy==2)=false:=by simp [hp]
 clear hk I hy ht hp ha hb;have cy:(x==a)=false:=by simpa using H
 have b5:=hide H;obtain ⟨r,hr⟩:∃ r,r=x:=⟨_,rfl⟩;have HR:=hide (show (if 0<a∧a<x then x-1 else x)=r by rw [if_neg om,hr]);have ca:1≤r∧r≤53:=om;obtain ⟨cr,cs⟩:=ca;have b3:=hide hr;clear H hr;simp only [av];go_enter Tryz.func132,Tryz.ntmps132;go_wp2_with fail;refine (aH c _ hn).mono ?_;rintro e w1 ⟨rfl,ab⟩;rw [bX.out];have c4:w.heap.size<w1.heap.size:=aj ab;have bd:Hid (Below w w w1):=ww ab;have a5:=hide (aa ab ac (au w c));obtain ⟨J,O,R,S,T,U,V,W,q8,q9,f,o,E,F⟩:=a5.out;clear ab;go_wp2_with fail;refine (bz c y _ true (by simp;have h:=HY.out;unfold dp at h;omega)).mono ?_;rintro e w2 ⟨rfl,ad⟩;have c5:w.heap.size<w2.heap.size:=aj ad;have bh:Hid (Below w w w2):=ao bd.out ad;have a6:Hid (aG w2 w c):=by have hp:=a5.out;exact qq ad
 clear J O R S T U V W q8 q9 f o E F;obtain ⟨J,O,R,S,T,U,V,W,q8,q9,f,o,E,F⟩:=a6.out;clear ad;go_wp2_with fail;refine (bz c t _ true (by simp;have h:=HT.out;unfold dp at h;omega)).mono ?_;rintro e w3 ⟨rfl,ah⟩;have c6:w.heap.size<w3.heap.size:=aj ah;have bl:Hid (Below w w w3):=ao bh.out ah;have a7:Hid (aG w3 w c):=by have hp:=a6.out;exact qq ah
 clear J O R S T U V W q8 q9 f o E F;obtain ⟨J,O,R,S,T,U,V,W,q8,q9,f,o,E,F⟩:=a7.out;clear ah;go_wp2_with fail;refine (bq c y _ hn).mono ?_;rintro e w4 ⟨rfl,al⟩;rw [a3.out.1,a3.out.2];have c7:w.heap.size<w4.heap.size:=aj al;have bp:Hid (Below w w w4):=ao bl.out al;have a8:Hid (aG w4 w c):=by have hp:=a7.out;exact qq al
 clear J O R S T U V W q8 q9 f o E F;obtain ⟨J,O,R,S,T,U,V,W,q8,q9,f,o,E,F⟩:=a8.out;clear al;go_wp2_with fail;refine (bq c t _ hn).mono ?_;rintro e w5 ⟨rfl,aq⟩;rw [a0.out.1,a0.out.2];have c8:w.heap.size<w5.heap.size:=aj aq;have bt:Hid (Below w w w5):=ao bp.out aq;have ba:Hid (aG w5 w c):=by have hp:=a8.out;exact qq aq
 clear J O R S T U V W q8 q9 f o E F;obtain ⟨J,O,R,S,T,U,V,W,q8,q9,f,o,E,F⟩:=ba.out;clear aq;go_wp2_with fail
 all_goals first
  | (exfalso;omega)
  | skip
 refine (cX c y _ hn).mono ?_;rintro e w6 ⟨rfl,ay⟩;rw [HA.out,a3.out.2];have c9:w.heap.size<w6.heap.size:=aj ay;have bw:Hid (Below w w w6):=ao bt.out ay;have bb:Hid (aG w6 w c):=by have hp:=ba.out;exact qq ay
 clear J O R S T U V W q8 q9 f o E F;obtain ⟨J,O,R,S,T,U,V,W,q8,q9,f,o,E,F⟩:=bb.out;clear ay;go_wp2_with fail;refine (cX c t _ hn).mono ?_;rintro e w7 ⟨rfl,aA⟩;rw [HB.out,a0.out.2];have dd:w.heap.size<w7.heap.size:=aj aA;have bx:Hid (Below w w w7):=ao bw.out aA;have b0:Hid (aG w7 w c):=by have hp:=bb.out;exact qq aA
 clear J O R S T U V W q8 q9 f o E F;obtain ⟨J,O,R,S,T,U,V,W,q8,q9,f,o,E,F⟩:=b0.out;clear aA;go_wp2_with fail
 all_goals first
  | (exfalso;omega)
  | skip
 go_loop [18,19] (fun cb cc=>∃ v h:Int,cc=.int .i64 v∧cb=.int .i64 h∧1≤v∧v≤60∧0≤h∧h≤60∧((h=r-v∧(b=0∨v≤b))∨(h=r-v+1∧0<b∧b<v))) (fun _ s=>(100-intOf s).toNat)
 case atStart=>exact ⟨1,r-1,rfl,by have:=b3.out;congr 1;omega,by omega,by omega,by omega,by omega,.inl ⟨rfl,by omega⟩⟩
 case round =>
  obtain ⟨v,h,rfl,rfl,c1,c2,cE,cI,G⟩:=hrel;by_cases aB:v=b
  ·subst aB
   have hd:=G;have HD:=hide hd;clear G hd;go_wp2;go_round
   case rel=>exact ⟨v+1,h,rfl,rfl,by omega,by have:=HD.out;omega,by omega,by omega,by have:=HD.out;omega⟩
   case measure=>simp [intOf];omega
  ·have bc:(v==b)=false:=by simpa using aB
   have HD:=hide G;by_cases a4:h=0
   ·subst a4
    have HV:=hide (show cJ a b x=v by
     have:=HD.out;unfold cJ;rw [if_neg b5.out];have b7:=HR.out;rw [b7]
     split <;> omega)
    clear G aB;have cl:=bx.out;go_wp2
    all_goals first
     | (exfalso;omega)
     | (go_ret2;exact ⟨aw HV.out.symm rfl,by (repeat' exact bel)⟩)
   ·have b6:(h==0)=false:=by simpa using a4
    clear G aB a4;have cM:1≤h:=by
     have h5:¬ h=0:=by simpa using b6
     omega
    have aF:¬ v=b:=by simpa using bc
    have b4:=hide aF;clear aF;go_wp2;go_round
    case rel=>exact ⟨v+1,h-1,rfl,rfl,by omega,by have:=HD.out;omega,by omega,by omega,by have h7:=HD.out;have h5:=b4.out;omega⟩
    case measure=>simp [intOf];omega
theorem tK (c:ar) (y t x:Int) (w:World) (F:c.name.size≤1000) (E:c.okB=true) (h:c.kind≠6) (J:dp c y) (H:dp c t) (o:1≤x) (I:x≤aL c y) (G:c.policy=3) (f:¬ x=aD c y) :
  Calls Tryz.prog 132 #[av c,y,t,x] w fun e S=>e=.returned (.tuple #[cJ (aD c y) (aD c t) x,.int .i64 0])∧Below w w S:=by
 by_cases O:0<aD c y
 ·by_cases R:aD c y<x
  ·exact qW c y t x w F E h J H o I G f O R
  ·exact qT c y t x w F E h J H o I G f O om
 ·exact qU c y t x w F E h J H o I G f om
theorem og (c:ar) (y t x:Int) (w:World) (S:c.name.size≤1000) :
    Calls Tryz.prog 132 #[av c,y,t,x] w fun e U=>e=.returned (.tuple #[fP c y t x,eI c y t x])∧Below w w U:=by
  have o:∀ {v T:Int},eI c y t x=T→(T=0→fP c y t x=v)→(T≠0→v=0)→Calls Tryz.prog 132 #[av c,y,t,x] w (fun e U=>e=.returned (.tuple #[v,T])∧Below w w U)→Calls Tryz.prog 132 #[av c,y,t,x] w fun e U=>e=.returned (.tuple #[fP c y t x,eI c y t x])∧Below w w U:=by
    intro v T W h2 h3 h;refine h.mono ?_;rintro e w1 ⟨rfl,O⟩;refine ⟨?_,O⟩;rw [W];by_cases V:T=0
    · rw [h2 V]
    · rw [h3 V,fP,if_neg om]
  cases E:c.okB
  · exact o (by simp [eI,E]) (fun h=>by omega) (fun _=>rfl) (vU c y t x w S E)
  · by_cases f:c.kind=6
    · exact o (by rw [eI,if_neg (fun h=>h.2 f)]) (fun h=>by omega) (fun _=>rfl) (wg c y t x w S E f)
    · by_cases G:dp c y
      · by_cases H:dp c t
        · by_cases F:1≤x∧x≤aL c y
          · rcases tH E f with R | R | R
            · have I:eI c y t x=0:=by rw [sE E f G H F,if_neg om]
              exact o I (fun _=>by rw [fP,if_pos I,if_pos R]) (fun h=>absurd rfl h) (tU c y t x w S E f G H F.1 F.2 R)
            · have I:eI c y t x=0:=by rw [sE E f G H F,if_neg om]
              exact o I (fun _=>by rw [fP,if_pos I,if_neg om,if_pos R]) (fun h=>absurd rfl h) (qS c y t x w S E f G H F.1 F.2 R)
            · by_cases J:x=aD c y
              · have I : eI c y t x = if aD c t = 0 then 12 else 0 := by
                  rw [sE E f G H F,if_pos R,hZ];by_cases O:aD c t=0
                  · rw [if_pos ⟨J,O⟩,if_pos O]
                  · rw [if_neg (fun h=>O h.2),if_neg O]
                refine o I (fun h=>?_) (fun h=>?_) (qY c y t x w S E f G H F.1 F.2 R J)
                · rw [fP,if_pos (by rw [I];exact h),if_neg om,if_neg om,cJ,if_pos J]
                  split at h
                  · omega
                  · rename_i O;rw [if_neg O]
                · split at h
                  · rename_i O;rw [if_pos O]
                  · exact absurd rfl h
              · have I:eI c y t x=0:=by rw [sE E f G H F,if_pos R,hZ,if_neg (fun h=>J h.1)]
                exact o I (fun _=>by rw [fP,if_pos I,if_neg om,if_neg om]) (fun h=>absurd rfl h) (tK c y t x w S E f G H F.1 F.2 R J)
          · exact o (by rw [eI,if_pos ⟨E,f⟩,if_pos ⟨G,H⟩,if_neg F]) (fun h=>by omega) (fun _=>rfl) (sJ c y t x w S E f G H om)
        · exact o (by rw [eI,if_pos ⟨E,f⟩,if_neg (fun h=>H h.2)]) (fun h=>by omega) (fun _=>rfl) (Aq c y t x w S E f G H)
      · exact o (by rw [eI,if_pos ⟨E,f⟩,if_neg (fun h=>G h.1)]) (fun h=>by omega) (fun _=>rfl) (A8 c y t x w S E f G)
end
end Go.Proofs.YtjhhmeoibfdcmaaGreat
