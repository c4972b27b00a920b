/- Lemmas. -/
import Derived.WalkSmall
import Derived.Test.YtpebkobmhhnojaaGreatDoorTp06
import Derived.Test.YtpebkobmhhnojaaGreatDoorTp09
import Derived.Test.YtpebkobmhhnojaaGreatDoorTp15
import Derived.Test.YtpebkobmhhnojaaGreatDoorTp19
set_option linter.unusedSimpArgs false
set_option linter.unusedVariables false
set_option maxRecDepth 100000
set_option maxHeartbeats 12800000
namespace Go.Proofs.YtpebkobmhhnojaaGreatDoor
section
open Go.RowKit Qd
theorem oy (s:Sp) (d:Int) (w:World) (f:-100000000≤s.b∧s.b≤100000000) (E:-100000000≤d∧d≤100000000) :
  Calls Tryz.prog 63 #[.agg #[s.a,s.b],d] w fun e w'=>e=.returned (.int .i64 (s.b-d))∧Below w w w':=by
 obtain ⟨h,o⟩:=f;obtain ⟨F,G⟩:=E;go_enter Tryz.func63,Tryz.ntmps63;go_wp2;go_ret;exact ⟨rfl,by (repeat' exact bel)⟩
def Dh (l:List (Int × Int)) (x:Int) (w:World) (e:Ending) (w':World):Prop:=∃ b,e=.returned (.tuple #[.int .i64 (xx (l.map Prod.snd) x:Int),.bool b])∧Below w w w'
theorem py (l:List (Int × Int)) (i:Nat) (hi:i<l.length):(l.map Prod.snd)[i]?.getD 0=(l[i]?.getD (0,0)).2:=by simp [hi]
theorem oO (g cap:Nat) (l:List (Int × Int)) (x:Int) (w:World) (hl:l.length≤100000) (hI:cQ w g l) (O:-100000000≤x∧x≤100000000) (hv:∀ i,i<l.length→-100000000≤(l[i]?.getD (0,0)).2∧(l[i]?.getD (0,0)).2≤100000000)
  (hs:∀ i j,i≤j→j<l.length→(l[i]?.getD (0,0)).2≤(l[j]?.getD (0,0)).2) :
  Calls Tryz.prog 62 #[.slice (some ⟨g,0,none⟩) l.length cap,x,.func (.func 63) #[] #[]] w (Dh l x w):=by
 obtain ⟨V,W⟩:=O;have HS:=hide hs;have HI:=hide hI;have HV:=hide hv;obtain ⟨n,Y⟩:∃ n,n=l.length:=⟨_,rfl⟩;have ah:n≤100000:=om;have E:=hide Y;rw [← Y];clear hs hI Y hl hv;go_enter Tryz.func62,Tryz.ntmps62;go_wp2_with fail;go_loopw [9,10] (fun s7 s8 wr=>∃ a b:Nat,s7=.int .i64 a∧s8=.int .i64 b∧a≤b∧b≤n∧Hid (∀ t,t<a→(l[t]?.getD (0,0)).2<x)∧Hid (∀ t,b≤t→t<n→x≤(l[t]?.getD (0,0)).2)∧Below w w wr) (fun s7 s8 _=>(intOf s8-intOf s7).toNat)
 case atStart=>exact ⟨0,n,rfl,rfl,by omega,by omega,hide (fun t ht=>by omega),hide (fun t h1 U=>by omega),Below.refl _ _⟩
 case round =>
  obtain ⟨a,b,rfl,rfl,ac,aa,HA,HB,J⟩:=hrel;have hg:=HI.out.call J;have HG:=hide hg;clear hg;by_cases ad:a<b
  ·have f:=HG.out.2 ((a+b) / 2) (by rw [← E.out];omega)
   have c1:wr.cell? ⟨g,(a+b) / 2*2,none⟩=some (.int .i64 (l[(a+b) / 2]?.getD (0,0)).1):=by rw [Nat.mul_comm];exact f.1
   have c2:wr.cell? ⟨g,(a+b) / 2*2+1,none⟩=some (.int .i64 (l[(a+b) / 2]?.getD (0,0)).2):=by rw [Nat.mul_comm];exact f.2
   have I:=HV.out ((a+b) / 2) (by rw [← E.out];omega);obtain ⟨G,H⟩:=I;clear f;go_wp2_with fail;refine (oy ⟨(l[(a+b) / 2]?.getD (0,0)).1,(l[(a+b) / 2]?.getD (0,0)).2⟩ x _ ⟨G,H⟩ ⟨V,W⟩).mono ?_;rintro e w1 ⟨rfl,o⟩;have F:=hide (J.trans (o.mono J.size));clear o c1 c2;by_cases O:(l[(a+b) / 2]?.getD (0,0)).2<x
   ·have HX:=hide O
    have ab:(l[(a+b) / 2]?.getD (0,0)).2-x<0:=om;clear O;go_wp2;refine ⟨⟨(a+b) / 2+1,b,?_,rfl,by omega,aa,hide (fun t ht=>?_),HB,F.out⟩,by simp [intOf];omega⟩
    ·congr 1
    ·have h1:=HS.out t ((a+b) / 2) om (by rw [← E.out];omega)
     have U:=HX.out;omega
   ·have HX:=hide O
    have ab:0≤(l[(a+b) / 2]?.getD (0,0)).2-x:=om;clear O;go_wp2;refine ⟨⟨a,(a+b) / 2,rfl,?_,by omega,by omega,HA,hide (fun t al ao=>?_),F.out⟩,by simp [intOf];omega⟩
    ·congr 1
    ·have h1:=HS.out ((a+b) / 2) t om (by rw [← E.out];omega)
     have U:=HX.out;omega
  ·obtain rfl:a=b:=om
   have HR:=hide (show xx (l.map Prod.snd) x=a from pc _ x a (by simp;rw [← E.out];omega) (fun j hj=>by rw [py l j (by rw [← E.out];omega)];exact HA.out j hj) (fun h=>by
    have U:a<l.length:=by simpa using h
    rw [py l a U];exact HB.out a (Nat.le_refl _) (by rw [E.out];exact U)))
   by_cases Y:a<n
   ·have f:=HG.out.2 a (by rw [← E.out];omega)
    have c1:wr.cell? ⟨g,a*2,none⟩=some (.int .i64 (l[a]?.getD (0,0)).1):=by rw [Nat.mul_comm];exact f.1
    have c2:wr.cell? ⟨g,a*2+1,none⟩=some (.int .i64 (l[a]?.getD (0,0)).2):=by rw [Nat.mul_comm];exact f.2
    have I:=HV.out a (by rw [← E.out];omega);obtain ⟨G,H⟩:=I;clear f;go_wp2_with fail;refine (oy ⟨(l[a]?.getD (0,0)).1,(l[a]?.getD (0,0)).2⟩ x _ ⟨G,H⟩ ⟨V,W⟩).mono ?_;rintro e w1 ⟨rfl,o⟩;have F:=hide (J.trans (o.mono J.size));clear o c1 c2;go_wp2
    all_goals
     go_ret2;exact ⟨_,by rw [HR.out];rfl,F.out⟩
   ·go_wp2
    all_goals
     go_ret2;exact ⟨_,by rw [HR.out];rfl,J⟩
theorem tS (c:aC) (y:Int):0≤aF c y∧aF c y≤3068037:=by
 by_cases h:aP c y 1601=0
 ·have:=dm c y h;omega
 ·simp [aF,h]
theorem FB (c:aC) (y:Int) (h:aP c y 1601=0):0≤bB c y∧bB c y≤3068037:=by
 have:=dm c y h;omega
theorem mC (c:aC) (day y:Int) (w:World) (hn:c.name.size≤1000) (ah:c.Ok) (hd:cH day=true) (hy:-100≤y∧y≤20000) (E:∀ f,eg c day f→y-2≤f∧f≤y+2) :
    Calls Tryz.prog 121 #[aI c,day,y] w fun e w'=>e=.returned (.tuple #[cF c day,fh c day,cB c day])∧Below w w w':=by
  have a8:0≤day∧day<3068037:=by simpa [cH] using hd
  have a0:=hide E;have a6:=hide ah;have HD:=hide hd;have V:c.okB=true:=by simpa [aC.okB] using ah
  have a1:=hide V;clear E ah hd V;simp only [aI];go_enter Tryz.func121,Tryz.ntmps121;go_wp2_with fail;go_loopw [9] (fun s9 wr=>∃ z:Int,s9=.int .i64 z∧y-2≤z∧z≤y+3∧Hid (∀ f,eg c day f→z≤f)∧bR wr w c∧w.heap.size<wr.heap.size∧Below w w wr) (fun s9 _=>(y+3-intOf s9).toNat)
  case atStart=>exact ⟨y-2,rfl,by omega,by omega,hide (fun f h=>(a0.out f h).1),be w c,by simp,by (repeat' exact bel)⟩
  case round =>
    obtain ⟨z,rfl,bc,bd,HZ,hQ,ad,hB⟩:=hrel;have HQ:=hide hQ;have HB:=hide hB;obtain ⟨q0,q1,q2,q3,q4,q5,q6,q7,q8,q9,al,ao,aq,aA⟩:=hQ;clear hB;by_cases ba:z≤y+2
    · have bb:=tS c z
      go_wp2_with fail;refine (dk c z _ hn).mono ?_;rintro e w1 ⟨rfl,H⟩;clear q0 q1 q2 q3 q4 q5 q6 q7 q8 q9 al ao aq aA;have ac:=hide (az H ad HQ.out);have aB:=hide (HB.out.trans (H.mono (Nat.le_of_lt ad)));have o:w.heap.size<w1.heap.size:=Nat.lt_of_lt_of_le ad H.size;clear H;by_cases O:aP c z 1601=0
      · have a9:=FB c z O
        have HA:=hide O;have a5:=hide (dj O);rw [O];clear O;obtain ⟨q0,q1,q2,q3,q4,q5,q6,q7,q8,q9,al,ao,aq,aA⟩:=ac.out;go_wp2_with fail;refine (l6 c z _ hn).mono ?_;rintro e w2 ⟨rfl,I⟩;rw [a5.out];clear q0 q1 q2 q3 q4 q5 q6 q7 q8 q9 al ao aq aA;have a2:=hide (az I o ac.out);have W:=hide (aB.out.trans (I.mono (Nat.le_of_lt o)));have U:w.heap.size<w2.heap.size:=Nat.lt_of_lt_of_le o I.size;clear I;by_cases F:aF c z≤day∧day≤bB c z
        · have J:=ig HD.out (show eg c day z from ⟨HA.out,F.1,F.2⟩)
          have Y:=hide J.1;have aa:=hide J.2.1;have ab:=hide J.2.2;obtain ⟨a3,a4⟩:=F;clear J;go_wp2
          all_goals first
            | (exfalso;omega)
            | (go_ret3;exact ⟨by (rw [Y.out,aa.out,ab.out]) <;> rfl,W.out⟩)
        · have G := hide (show ∀ f, eg c day f → z + 1 ≤ f from fun f h => by
            have h1:=HZ.out f h;by_cases h2:f=z
            · subst h2;exact absurd ⟨h.2.1,h.2.2⟩ F
            · omega)
          rcases (show day<aF c z∨(aF c z≤day∧bB c z<day) by omega) with F | ⟨a3,a4⟩
          · go_wp2
            all_goals first
              | (exfalso;omega)
              | exact ⟨⟨z+1,rfl,by omega,by omega,G,a2.out,U,W.out⟩,by simp [intOf];omega⟩
          · go_wp2
            all_goals first
              | (exfalso;omega)
              | exact ⟨⟨z+1,rfl,by omega,by omega,G,a2.out,U,W.out⟩,by simp [intOf];omega⟩
      · have a7:(aP c z 1601 != 0)=true:=by simpa using O
        have G := hide (show ∀ f, eg c day f → z + 1 ≤ f from fun f h => by
            have h1:=HZ.out f h;by_cases h2:f=z
            · subst h2;exact absurd h.1 O
            · omega)
        clear O;go_wp2
        all_goals first
          | (exfalso;omega)
          | exact ⟨⟨z+1,rfl,by omega,by omega,G,ac.out,o,aB.out⟩,by simp [intOf];omega⟩
    · have J := jC (c := c) (day := day) (by
        rintro ⟨f,h⟩;have h1:=HZ.out f h;have h2:=a0.out f h;omega)
      have Y:=hide J.1;have aa:=hide J.2.1;have ab:=hide (J.2.2 a1.out HD.out);clear J;go_wp2
      all_goals first
        | (exfalso;omega)
        | (go_ret3;exact ⟨by (rw [Y.out,aa.out,ab.out]) <;> rfl,HB.out⟩)
theorem vu (c:aC) (day:Int) (w:World) (J:c.name.size≤1000) (H:c.okB=false) :
  Calls Tryz.prog 84 #[aI c,day] w fun e w'=>e=.returned (.tuple #[cF c day,fh c day,cB c day])∧Below w w w':=by
 have h:=ko (day:=day) H;have E:=hide h.1;have F:=hide h.2.1;have G:=hide h.2.2;have I:dI c=1:=by simp [dI,H]
 clear h H;simp only [aI];go_enter Tryz.func84,Tryz.ntmps84;go_wp2_with fail;refine (bg c _ J).mono ?_;rintro e O ⟨rfl,f⟩;rw [I];have o:=hide (Below.trans ((Below.refl _ _).alloc (Nat.le_refl _) _) (f.mono af):Below w w O);clear f;go_wp2;go_ret3;exact ⟨by (rw [E.out,F.out,G.out]) <;> rfl,o.out⟩
theorem vw (c:aC) (day:Int) (w:World) (Y:c.name.size≤1000) (O:c.okB=true) (U:cH day=false) :
  Calls Tryz.prog 84 #[aI c,day] w fun e w'=>e=.returned (.tuple #[cF c day,fh c day,cB c day])∧Below w w w':=by
 have E:=jT (c:=c) U;have H:=hide E.1;have I:=hide E.2.1;have J:=hide (E.2.2 O);have W:dI c=0:=by simp [dI,O]
 clear E O;simp only [aI];go_enter Tryz.func84,Tryz.ntmps84;go_wp2_with fail;refine (bg c _ Y).mono ?_;rintro e V ⟨rfl,f⟩;rw [W];have o:w.heap.size<V.heap.size:=am f;have F:=hide (Below.trans ((Below.refl _ _).alloc (Nat.le_refl _) _) (f.mono af):Below w w V);clear f;go_wp2_with fail;refine (Dk day _ U).mono ?_;rintro e w2 ⟨rfl,h⟩;have G:=hide (F.out.trans (h.mono (Nat.le_of_lt o)));have aa:w.heap.size<w2.heap.size:=Nat.lt_of_lt_of_le o h.size;clear h;go_wp2;go_ret3;exact ⟨by (rw [H.out,I.out,J.out]) <;> rfl,by have:=G.out;(repeat' exact bel)⟩
theorem xH (c:aC) (day:Int) (w:World) (hn:c.name.size≤1000) (hk:c.okB=true) (hd:cH day=true) :
    Calls Tryz.prog 84 #[aI c,day] w fun e w'=>e=.returned (.tuple #[cF c day,fh c day,cB c day])∧Below w w w':=by
  have ao:c.Ok:=by simpa [aC.okB] using hk
  have hE:dI c=0:=by simp [dI,hk]
  have a3:0≤day∧day<3068037:=by simpa [cH] using hd
  obtain ⟨hm,hs,_,_⟩:=bN ao;obtain ⟨o1,o2,_,_⟩:=pU day a3.1 a3.2;have bb:=hide (fun f (h:eg c day f)=>CP h hd);have U:=hide ao;have HD:=hide hd;clear hk ao hd;simp only [aI];go_enter Tryz.func84,Tryz.ntmps84;go_wp2_with fail;refine (bg c _ hn).mono ?_;rintro e w1 ⟨rfl,Y⟩;rw [hE];have aA:w.heap.size<w1.heap.size:=am Y;have a6:=hide (Below.trans ((Below.refl _ _).alloc (Nat.le_refl _) _) (Y.mono af):Below w w w1);have HQ:=hide (az Y af (be w c));clear Y;go_wp2_with fail;refine (im day _ HD.out).mono ?_;rintro e w2 ⟨rfl,aa⟩;have a1:=hide (az aa aA HQ.out);have a7:=hide (a6.out.trans (aa.mono (Nat.le_of_lt aA)));have bh:w.heap.size<w2.heap.size:=Nat.lt_of_lt_of_le aA aa.size;clear aa;obtain ⟨q0,q1,q2,q3,q4,q5,q6,q7,q8,q9,F,G,H,I⟩:=a1.out;go_wp2_with fail;clear q0 q1 q2 q3 q4 q5 q6 q7 q8 q9 F G H I;go_loopw [4,30] (fun s4 aB wr=>∃ (k:Nat) (y:Int),aB=.int .i64 k∧k≤3∧s4=.int .i64 y∧1500-k≤y∧y≤10000+k∧Hid (∀ f,eg c day f→y-2≤f∧f≤y+2)∧bR wr w c∧w.heap.size<wr.heap.size∧Below w w wr) (fun _ aB _=>(3-intOf aB).toNat)
  case atStart =>
    refine ⟨0,dr day-c.shift,rfl,by omega,by first | rfl | simp,by omega,by omega,hide (fun f h=>bb.out f h),bG a1.out bh _,by simp;omega,?_⟩;have:=a7.out
    (repeat' exact bel)
  case round =>
    obtain ⟨k,y,rfl,hk,rfl,bx,bX,HZ,hQ,ac,hB⟩:=hrel;have bc:=hide hQ;have a0:=hide hB;obtain ⟨q0,q1,q2,q3,q4,q5,q6,q7,q8,q9,F,G,H,I⟩:=hQ;clear hB;by_cases bt:k<3
    · go_wp2_with fail
      refine (l6 c y _ hn).mono ?_;rintro e w3 ⟨rfl,ab⟩;clear q0 q1 q2 q3 q4 q5 q6 q7 q8 q9 F G H I;have V:=hide (az ab ac bc.out);have ah:=hide (a0.out.trans (ab.mono (Nat.le_of_lt ac)));have E:w.heap.size<w3.heap.size:=Nat.lt_of_lt_of_le ac ab.size;clear ab;by_cases hA:aP c y 1600=0
      · rw [hA]
        have HA:=hide hA;have aq:=br hA;have bk:=aq.2.1;have a5:=aq.2.2;clear hA aq;by_cases bs:bB c y<day
        · have J := hide (show ∀ f, eg c day f → y + 1 - 2 ≤ f ∧ f ≤ y + 1 + 2 from fun f h => by
            have h1:=HZ.out f h;have h3:y<f:=by
              rcases Int.lt_or_le y f with W | W
              · exact W
              · have:=mY c U.out (by have:=(br h.1).2.1;omega) W a5
                have:=h.2.2;omega
            omega)
          go_wp2
          all_goals first
            | (exfalso;omega)
            | exact ⟨⟨k+1,y+1,by go_num,by omega,rfl,by omega,by omega,J,V.out,E,ah.out⟩,by simp [intOf];omega⟩
        · obtain ⟨q0,q1,q2,q3,q4,q5,q6,q7,q8,q9,F,G,H,I⟩:=V.out
          go_wp2_with fail
          all_goals first
            | (exfalso;omega)
            | skip
          refine (dk c y _ hn).mono ?_;rintro e w5 ⟨rfl,o⟩;clear q0 q1 q2 q3 q4 q5 q6 q7 q8 q9 F G H I;have a2:=hide (az o E V.out);have al:=hide (ah.out.trans (o.mono (Nat.le_of_lt E)));have ad:w.heap.size<w5.heap.size:=Nat.lt_of_lt_of_le E o.size;clear o;have bw:=tS c y;have J:=hide (show (¬ (aP c y 1601=0∧aF c y≤day))→∀ f,eg c day f→y-1-2≤f∧f≤y-1+2 from fun bd f h=>by
            have h1:=HZ.out f h;have h3:f<y:=by
              rcases Int.lt_trichotomy f y with W | W | W
              · exact W
              · subst W;exact absurd ⟨h.1,h.2.1⟩ bd
              · have:=dc c U.out om W (br h.1).2.2
                have:=h.2.1;omega
            omega)
          by_cases hS:aP c y 1601=0
          · by_cases a4:aF c y≤day
            · have hf:=ig HD.out (show eg c day y from ⟨hS,a4,by omega⟩)
              have a8:=hide hf.1;have a9:=hide hf.2.1;have ba:=hide hf.2.2;rw [hS];clear hf hS J;go_wp2
              all_goals first
                | (exfalso;omega)
                | (go_ret3;exact ⟨by (rw [a8.out,a9.out,ba.out]) <;> rfl,al.out⟩)
            · have O:=hide (J.out (fun h=>a4 h.2))
              rw [hS];clear hS J;go_wp2
              all_goals first
                | (exfalso;omega)
                | exact ⟨⟨k+1,y-1,by go_num,by omega,rfl,by omega,by omega,O,a2.out,ad,al.out⟩,by simp [intOf];omega⟩
          · have O:=hide (J.out (fun h=>hS h.1))
            have bp:(aP c y 1601==0)=false:=by simpa using hS
            clear hS J;go_wp2
            all_goals first
              | (exfalso;omega)
              | exact ⟨⟨k+1,y-1,by go_num,by omega,rfl,by omega,by omega,O,a2.out,ad,al.out⟩,by simp [intOf];omega⟩
      · have bl:(aP c y 1600 != 0)=true:=by simpa using hA
        clear hA;obtain ⟨q0,q1,q2,q3,q4,q5,q6,q7,q8,q9,F,G,H,I⟩:=V.out;go_wp2_with fail
        all_goals first
          | (exfalso;omega)
          | skip
        refine (mC c day y _ hn U.out HD.out om HZ.out).mono ?_;rintro e w5 ⟨rfl,o⟩;clear q0 q1 q2 q3 q4 q5 q6 q7 q8 q9 F G H I;go_wp2;go_ret3;exact ⟨rfl,ah.out.trans (o.mono (Nat.le_of_lt E))⟩
    · go_wp2_with fail
      all_goals first
        | (exfalso;omega)
        | skip
      refine (mC c day y _ hn U.out HD.out om HZ.out).mono ?_;rintro e w5 ⟨rfl,o⟩;clear q0 q1 q2 q3 q4 q5 q6 q7 q8 q9 F G H I;go_wp2;go_ret3;exact ⟨rfl,a0.out.trans (o.mono (Nat.le_of_lt ac))⟩
theorem vN (c:aC) (day:Int) (w:World) (h:c.name.size≤1000) :
  Calls Tryz.prog 84 #[aI c,day] w fun e w'=>e=.returned (.tuple #[cF c day,fh c day,cB c day])∧Below w w w':=by
 cases f:c.okB
 ·exact vu c day w h f
 ·cases o:cH day
  ·exact vw c day w h f o
  ·exact xH c day w h f o
theorem A7 (c:aC) (day:Int) (w:World) (h:c.name.size≤1000) :
  Calls Tryz.prog 57 #[aI c,day] w fun e w'=>e=.returned (.tuple #[cF c day,cB c day])∧Below w w w':=by
 simp only [aI];go_enter Tryz.func57,Tryz.ntmps57;go_wp2_with fail;refine (vN c day _ h).mono ?_;rintro e o ⟨rfl,f⟩;go_wp2;go_ret2;exact ⟨rfl,Below.trans ((Below.refl _ _).alloc (Nat.le_refl _) _) (f.mono af)⟩
theorem fS {c:aC} (h:c.okB=true):aP c c.first 1601=0∧aP c c.last 1601=0∧1602≤c.first∧c.last≤9996∧c.first≤c.last:=by
 have f:c.Ok:=by simpa [aC.okB] using h
 have o:=f.1;unfold aC.served at o;exact ⟨kz f om om,kz f om om,by omega,by omega,by omega⟩
theorem tc (c:aC) (w:World) (O:c.name.size≤1000) (E:c.okB=false) :
  Calls Tryz.prog 56 #[aI c] w fun e w'=>e=.returned (.tuple #[.agg #[.int .i64 0,.int .i64 0],.int .i64 1])∧Below w w w':=by
 have F:=hide (show aP c c.first 1601=1 by simp [aP,E]);clear E;simp only [aI];go_enter Tryz.func56,Tryz.ntmps56;go_wp2_with fail;refine (dk c c.first _ O).mono ?_;rintro e h ⟨rfl,f⟩;rw [F.out];have U:h.cell? ⟨w+1,0,none⟩=some (.int .i64 0):=ap f;have r1:h.cell? ⟨w+1,1,none⟩=some (.int .i64 0):=ap f;have H:h.frozen? ⟨w+1,0,none⟩=false:=an f;have I:h.frozen? ⟨w+1,1,none⟩=false:=an f;have o:w.heap.size+1<h.heap.size:=am f;have G:=hide (show Below w w h by (repeat' exact bel));clear f;go_wp2;have J:=G.out;exact bodyPost_ret (v:=.tuple #[.agg #[.int .i64 0,.int .i64 0],.int .i64 1]) (by simp (maxDischargeDepth:=9) [results,Tryz.results56,go_sem,U,r1,H,I,o]) rfl ⟨rfl,by (repeat' exact bel)⟩
theorem uR (c:aC) (w:World) (hn:c.name.size≤1000) (hk:c.okB=true) :
  Calls Tryz.prog 56 #[aI c] w fun e w'=>e=.returned (.tuple #[.agg #[aF c c.first,bB c c.last],.int .i64 0])∧Below w w w':=by
 obtain ⟨hA,hB,_,_,_⟩:=fS hk;have HA:=hide hA;have G:=hide (dj hB);clear hk hA hB;simp only [aI];go_enter Tryz.func56,Tryz.ntmps56;go_wp2_with fail;refine (dk c c.first _ hn).mono ?_;rintro e E ⟨rfl,f⟩;rw [HA.out];have r0:E.cell? ⟨w+1,0,none⟩=some (.int .i64 0):=ap f;have r1:E.cell? ⟨w+1,1,none⟩=some (.int .i64 0):=ap f;have f0:E.frozen? ⟨w+1,0,none⟩=false:=an f;have f1:E.frozen? ⟨w+1,1,none⟩=false:=an f;have o:w.heap.size+1<E.heap.size:=am f;have ab:w.heap.size<E.heap.size:=om;have H:=hide (show Below w w E by (repeat' exact bel));have J:=hide (az f ag (bG (be w c) af _));obtain ⟨q0,q1,q2,q3,q4,q5,q6,q7,q8,q9,U,V,W,Y⟩:=J.out;clear f;go_wp2_with fail;refine (l6 c c.last _ hn).mono ?_;rintro e F ⟨rfl,h⟩;rw [G.out];clear q0 q1 q2 q3 q4 q5 q6 q7 q8 q9 U V W Y;have s0:F.cell? ⟨w+1,0,none⟩=some (.int .i64 0):=by rw [h.cell (p:=⟨w+1,0,none⟩) o];exact r0
 have s1:F.cell? ⟨w+1,1,none⟩=some (.int .i64 0):=by rw [h.cell (p:=⟨w+1,1,none⟩) o];exact r1
 have k0:F.frozen? ⟨w+1,0,none⟩=false:=by rw [h.frozen (p:=⟨w+1,0,none⟩) o];exact f0
 have k1:F.frozen? ⟨w+1,1,none⟩=false:=by rw [h.frozen (p:=⟨w+1,1,none⟩) o];exact f1
 have O:w.heap.size+1<F.heap.size:=Nat.lt_of_lt_of_le o h.size;have I:=hide (H.out.trans (h.mono om):Below w w F);clear h r0 r1 f0 f1;go_wp2;have aa:=I.out;exact bodyPost_ret (v:=.tuple #[.agg #[aF c c.first,bB c c.last],.int .i64 0]) (by simp (maxDischargeDepth:=9) [results,Tryz.results56,go_sem,s0,s1,k0,k1,O]) rfl ⟨rfl,by (repeat' exact bel)⟩
noncomputable def cA (c:aC) (day:Int):Int:=if c.okB=false then 1 else if cB c day≠0 then cB c day else if aF c c.first≤day∧day≤bB c c.last then 0 else 11
noncomputable def aH (c:aC) (day:Int):Int:=if cA c day=0 then cF c day else 0
theorem rG {c:aC} {day:Int} (h:cB c day≠0):cF c day=0:=by
 cases E:c.okB
 ·exact (ko E).1
 ·cases o:cH day
  ·exact (jT o).1
  ·by_cases f:∃ y,eg c day y
   ·obtain ⟨y,f⟩:=f
    exact absurd (ig o f).2.2 h
   ·exact (jC f).1
theorem pD {c:aC} {day:Int} (h:cA c day=0):c.okB=true∧cH day=true∧eg c day (aH c day)∧c.first≤aH c day∧aH c day≤c.last:=by
 have H:aH c day=cF c day:=by rw [aH,if_pos h]
 unfold cA at h
 split at h
 ·omega
 ·rename_i hk
  split at h
  ·rename_i hf;exact absurd h hf
  ·rename_i hf
   split at h
   ·rename_i hb
    have G:cB c day=0:=om;obtain ⟨F,I,f⟩:=zx G;have E:c.okB=true:=by simpa using hk
    obtain ⟨V,W,J,O,U⟩:=fS E;rw [H];refine ⟨E,I,f,?_,?_⟩
    ·rcases Int.lt_or_le (cF c day) c.first with o | o
     ·have:=dc c F (by have:=(br f.1).2.1;omega) o om
      have:=f.2.2;omega
     ·exact o
    ·rcases Int.lt_or_le c.last (cF c day) with o | o
     ·have:=dc c F om o (br f.1).2.2
      have:=f.2.1;omega
     ·exact o
   ·omega
theorem jP {c:aC} {day y:Int} (E:c.okB=true) (f:eg c day y) (H:c.first≤y) (I:y≤c.last):cA c day=0∧aH c day=y:=by
 have h:c.Ok:=by simpa [aC.okB] using E
 obtain ⟨hA,hB,U,V,W⟩:=fS E;have O:cH day=true:=by
  have:=dm c y f.1;have h3:=f.2;have:bB c y<3068037:=by
   obtain ⟨z,F⟩:∃ z,z=y+1:=⟨_,rfl⟩;have o:aP c z 1601=0:=kz h om om;have:=dm c z o;have J:=eI c y (by rw [← F];exact o);rw [← F] at J;have:bM c z=bB c z-aF c z+1:=by simp [bM,o]
   omega
  simp [cH];omega
 obtain ⟨G,Y,f3⟩:=ig O f;have s1:=qD c h om H om;have s2:=mY c h om I om;have e:cA c day=0:=by
  unfold cA;rw [if_neg (by simp [E]),if_neg om,if_pos ⟨by have:=f.2.1;omega,by have:=f.2.2;omega⟩]
 exact ⟨e,by rw [aH,if_pos e,G]⟩
theorem tp (c:aC) (day:Int) (w:World) (I:c.name.size≤1000) (o:c.okB=false) :
  Calls Tryz.prog 27 #[aI c,day] w fun e w'=>e=.returned (.tuple #[aH c day,cA c day])∧Below w w w':=by
 have E:=hide (show cA c day=1 by simp [cA,o]);have G:=hide (show aH c day=0 by rw [aH,if_neg (by rw [E.out];omega)]);have H:=hide o;clear o;simp only [aI];go_enter Tryz.func27,Tryz.ntmps27;go_wp2_with fail;refine (tc c _ I H.out).mono ?_;rintro e F ⟨rfl,f⟩;have J:w.heap.size<F.heap.size:=am f;have h:=hide (show Below w w F by refine Below.trans ?_ (f.mono af);(repeat' exact bel));clear f;go_wp2;have:=h.out;go_ret2;exact ⟨aW G.out.symm E.out.symm,by (repeat' exact bel)⟩
theorem vZ (c:aC) (day:Int) (w:World) (hn:c.name.size≤1000) (hk:c.okB=true) :
  Calls Tryz.prog 27 #[aI c,day] w fun e w'=>e=.returned (.tuple #[aH c day,cA c day])∧Below w w w':=by
 have J:=hide hk;have HZ:=hide (fun h=>rG (c:=c) (day:=day) h);simp only [aI];go_enter Tryz.func27,Tryz.ntmps27;go_wp2_with fail;refine (uR c _ hn J.out).mono ?_;rintro e O ⟨rfl,F⟩;have aq:w.heap.size<O.heap.size:=am F;have U:=hide (show Below w w O by refine Below.trans ?_ (F.mono af);(repeat' exact bel));have V:=hide (az F af (be w c));obtain ⟨q0,q1,q2,q3,q4,q5,q6,q7,q8,q9,W,Y,aa,ab⟩:=V.out;clear F;go_wp2_with fail;refine (A7 c day _ hn).mono ?_;rintro e w2 ⟨rfl,G⟩;have s0:w2.cell? ⟨O,0,none⟩=some (.int .i64 (aF c c.first)):=ap G;have s1:w2.cell? ⟨O,1,none⟩=some (.int .i64 (bB c c.last)):=ap G;have E:=hide (show Below w w w2 by have hp:=U.out;refine Below.trans ?_ (G.mono ag);(repeat' exact bel));clear q0 q1 q2 q3 q4 q5 q6 q7 q8 q9 W Y aa ab;clear G;by_cases f:cB c day=0
 ·have H3:=hide f
  rw [f];by_cases H:aF c c.first≤day∧day≤bB c c.last
  ·have o:=hide (show cA c day=0 by unfold cA;rw [if_neg (by simp [J.out]),if_neg (by rw [f];simp),if_pos H])
   have I:=hide (show aH c day=cF c day by rw [aH,if_pos o.out]);obtain ⟨ac,ad⟩:=H;clear f;go_wp2
   all_goals first
    | (exfalso;omega)
    | (go_ret2;exact ⟨aW I.out.symm o.out.symm,E.out⟩)
  ·have o:=hide (show cA c day=11 by unfold cA;rw [if_neg (by simp [J.out]),if_neg (by rw [f];simp),if_neg H])
   have I:=hide (show aH c day=0 by rw [aH,if_neg (by rw [o.out];omega)]);clear f;rcases (show day<aF c c.first∨(aF c c.first≤day∧bB c c.last<day) by omega) with hd | ⟨ah,al⟩
   ·go_wp2
    all_goals first
     | (exfalso;omega)
     | (go_ret2;exact ⟨aW I.out.symm o.out.symm,E.out⟩)
   ·go_wp2
    all_goals first
     | (exfalso;omega)
     | (go_ret2;exact ⟨aW I.out.symm o.out.symm,E.out⟩)
 ·have o:=hide (show cA c day=cB c day by unfold cA;rw [if_neg (by simp [J.out]),if_pos f])
  have I:=hide (show aH c day=cF c day by rw [aH,if_neg (by rw [o.out];exact f),HZ.out f]);have ao:(cB c day==0)=false:=by simpa using f
  clear f;go_wp2
  all_goals first
   | (exfalso;omega)
   | (go_ret2;exact ⟨aW I.out.symm o.out.symm,E.out⟩)
theorem mz (c:aC) (day:Int) (w:World) (h:c.name.size≤1000) :
  Calls Tryz.prog 27 #[aI c,day] w fun e w'=>e=.returned (.tuple #[aH c day,cA c day])∧Below w w w':=by
 cases f:c.okB
 ·exact tp c day w h f
 ·exact vZ c day w h f
def nD (c:aC) (y d:Int):Nat:=xx ((nE c y).map Prod.snd) d
theorem tL (c:aC) (y:Int) (f:aP c y 1601=0) (i:Nat) (hi:i<ce c y):((nE c y).map Prod.snd)[i]?.getD 0=cf c y (i+1)-1:=by
 rw [py _ i (by rw [eQ];exact hi),(ej c y f i hi).1];rfl
theorem Gg (c:aC) (y d:Int) (f:aP c y 1601=0) (i:Nat) (hi:i<ce c y) (h:cf c y i≤d) (o:d<cf c y (i+1)):nD c y d=i:=by
 refine pc _ _ i (by rw [List.length_map,eQ];omega) (fun j E=>?_) (fun _=>?_)
 ·rw [tL c y f j om]
  have:=cj c y f (show j+1≤i by omega) om;omega
 ·rw [tL c y f i hi]
  omega
theorem CH (c:aC) (y d:Int) (E:aP c y 1601=0) (G:aF c y≤d) (H:d≤bB c y):∃ i,i<ce c y∧cf c y i≤d∧d<cf c y (i+1):=by
 have o:∀ m,m≤ce c y→d<cf c y m→∃ i,i<ce c y∧cf c y i≤d∧d<cf c y (i+1):=by
  intro m
  induction m with
  | zero=>intro _ h;rw [iv] at h;omega
  | succ m F =>
   intro I h;rcases Int.lt_or_le d (cf c y m) with f | f
   ·exact F om f
   ·exact ⟨m,by omega,f,h⟩
 exact o _ (Nat.le_refl _) (by rw [dy c y E];omega)
theorem Do (c:aC) (y d:Int) (f:aP c y 1601=0) (E:aF c y≤d) (F:d≤bB c y):nD c y d<ce c y∧cf c y (nD c y d)≤d∧d<cf c y (nD c y d+1):=by
 obtain ⟨i,hi,h,o⟩:=CH c y d f E F;rw [Gg c y d f i hi h o];exact ⟨hi,h,o⟩
noncomputable def fq (c:aC) (d lv:Int):Int:=if c.okB=true∧1≤lv∧lv≤5 then cA c d else 1
noncomputable def gj (c:aC) (d lv:Int):Un:=if fq c d lv=0 then ⟨lv,aH c d,(jt c (aH c d) lv (nD c (aH c d) d):Int)+1⟩ else ⟨0,0,0⟩
theorem eW {c:aC} {d lv:Int} (h:fq c d lv=0):c.okB=true∧1≤lv∧lv≤5∧cA c d=0∧cH d=true∧eg c d (aH c d)∧aR c lv (aH c d)=0:=by
 unfold fq at h
 split at h
 ·rename_i hk
  obtain ⟨G,o,f,E,F⟩:=pD h;exact ⟨hk.1,hk.2.1,hk.2.2,h,o,f,fN (br f.1).1 hk.2.1 hk.2.2 E F⟩
 ·omega
theorem oA {c:aC} {d lv:Int} (h:fq c d lv=0):∃ i:Nat,gj c d lv=⟨lv,aH c d,(i:Int)+1⟩∧i<aM c (aH c d) lv∧cf c (aH c d) (aX c (aH c d) lv i)≤d∧d<cf c (aH c d) (aX c (aH c d) lv (i+1)):=by
 obtain ⟨U,E,F,V,J,f,O⟩:=eW h;obtain ⟨I,W,Y⟩:=Do c (aH c d) d f.1 f.2.1 f.2.2;obtain ⟨o,G,H⟩:=DD c (aH c d) f.1 lv E F _ I;refine ⟨_,by rw [gj,if_pos h],o,?_,?_⟩
 ·have:=cj c _ f.1 G om;omega
 ·have:=cj c _ f.1 (show nD c (aH c d) d+1≤aX c (aH c d) lv (jt c (aH c d) lv (nD c (aH c d) d)+1) from H) (cu c _ f.1 lv E F _ o);omega
theorem Dy {c:aC} {lv y d:Int} (Y:aR c lv y=0) (i:Nat) (hi:i<aM c y lv) (h1:cf c y (aX c y lv i)≤d) (h2:d<cf c y (aX c y lv (i+1))) :
  fq c d lv=0∧cA c d=0∧aH c d=y∧gj c d lv=⟨lv,y,(i:Int)+1⟩:=by
 obtain ⟨ab,O,F,G,I,J,f⟩:=bv Y;have W:=cu c y f lv F G (i+1) hi;have aa:=iw c y f lv F G i hi;have U:=cj c y f (Nat.zero_le (aX c y lv i)) om;have V:=cj c y f W (Nat.le_refl _);rw [iv] at U;rw [dy c y f] at V;have o:eg c d y:=⟨f,by omega,by omega⟩;obtain ⟨s1,s2⟩:=jP O o I J;have e:fq c d lv=0:=by unfold fq;rw [if_pos ⟨O,F,G⟩];exact s1
 refine ⟨e,s1,s2,?_⟩;rw [gj,if_pos e,s2];obtain ⟨w1,w2,w3⟩:=Do c y d f o.2.1 o.2.2;have H:aX c y lv i≤nD c y d:=by
  rcases Nat.lt_or_ge (nD c y d) (aX c y lv i) with h | h
  ·have:=cj c y f (show nD c y d+1≤aX c y lv i from h) om;omega
  ·exact h
 have E:nD c y d<aX c y lv (i+1):=by
  rcases Nat.lt_or_ge (nD c y d) (aX c y lv (i+1)) with h | h
  ·exact h
  ·have:=cj c y f h om;omega
 rw [oz c y f lv F G _ i hi H E]
theorem bT (lv:Int) (w:World):Calls Tryz.prog 21 #[lv] w fun e w'=>e=.returned (.bool (decide (1≤lv∧lv≤5)))∧w=w':=by
 go_enter Tryz.func21,Tryz.ntmps21;go_wp2
 all_goals (go_ret;refine ⟨bA ?_,rfl⟩;simp;try omega)
theorem xt (c:aC) (y d:Int) (w:World) (cap E g2:Nat) (h:aP c y 1601=0) (J:cQ w E (nE c y)) (hd:-100000000≤d∧d≤100000000) :
  Calls Tryz.prog 30 #[bV y (ce c y) cap E (aV c y) g2,d] w fun e w'=>e=.returned (.int .i64 ((nD c y d:Int)+1))∧Below w w w':=by
 have ab:=gH c y h;have ac:=dm c y h;have G:xx ((nE c y).map Prod.snd) d≤100:=by
  have:=zI ((nE c y).map Prod.snd) d;rw [List.length_map,eQ] at this;omega
 have o:∀ i,i<(nE c y).length→-100000000≤((nE c y)[i]?.getD (0,0)).2∧((nE c y)[i]?.getD (0,0)).2≤100000000:=by
  intro i hi;rw [eQ] at hi;rw [(ej c y h i hi).1];have Y:=cj c y h (Nat.zero_le (i+1)) hi;have b2:=cj c y h (show i+1≤ce c y from hi) (Nat.le_refl _);rw [iv] at Y;rw [dy c y h] at b2;simp only [Option.getD_some];omega
 have f:∀ i j,i≤j→j<(nE c y).length→((nE c y)[i]?.getD (0,0)).2≤((nE c y)[j]?.getD (0,0)).2:=by
  intro i j aa O;rw [eQ] at O;rw [(ej c y h i om).1,(ej c y h j O).1];have:=cj c y h (show i+1≤j+1 by omega) om;simp only [Option.getD_some];omega
 have H:=hide (eQ c y);have I:=hide (show xx ((nE c y).map Prod.snd) d=nD c y d from rfl);have V:=hide J;have hl:=H.out;clear J;simp only [bV];go_enter Tryz.func30,Tryz.ntmps30;go_wp2_with fail;rw [← H.out];refine (oO E cap (nE c y) d _ om (V.out.alloc _) hd o f).mono ?_;rintro e w1 ⟨b,rfl,F⟩;rw [I.out];have W:=hide (show Below w w w1 by (repeat' exact bel));clear F o f;have U:nD c y d≤100:=by rw [← I.out];exact G
 go_wp2;go_ret;exact ⟨rfl,W.out⟩
theorem zD (c:aC) (d lv:Int) (w:World) (O:c.name.size≤1000) (F:c.okB=false) :
  Calls Tryz.prog 10 #[aI c,d,lv] w fun e w'=>e=.returned (.tuple #[.agg #[.int .i64 0,.int .i64 0,.int .i64 0],.int .i64 1])∧Below w w w':=by
 have G:=hide (show dI c=1 by simp [dI,F]);clear F;simp only [aI];go_enter Tryz.func10,Tryz.ntmps10;go_wp2_with fail;refine (bg c _ O).mono ?_;rintro e h ⟨rfl,f⟩;rw [G.out];have U:h.cell? ⟨w+1,0,none⟩=some (.int .i64 0):=ap f;have H:h.frozen? ⟨w+1,0,none⟩=false:=an f;have r1:h.cell? ⟨w+1,1,none⟩=some (.int .i64 0):=ap f;have I:h.frozen? ⟨w+1,1,none⟩=false:=an f;have r2:h.cell? ⟨w+1,2,none⟩=some (.int .i64 0):=ap f;have J:h.frozen? ⟨w+1,2,none⟩=false:=an f;have o:w.heap.size+1<h.heap.size:=am f;have E:=(show Below w w h by (repeat' exact bel));clear f;go_wp2;exact bodyPost_ret (v:=.tuple #[.agg #[.int .i64 0,.int .i64 0,.int .i64 0],.int .i64 1]) (by simp (maxDischargeDepth:=9) [results,Tryz.results10,go_sem,U,r1,r2,H,I,J,o]) rfl ⟨rfl,by (repeat' exact bel)⟩
theorem Db (c:aC) (d lv:Int) (w:World) (V:c.name.size≤1000) (G:c.okB=true) (H:¬ (1≤lv∧lv≤5)) :
  Calls Tryz.prog 10 #[aI c,d,lv] w fun e w'=>e=.returned (.tuple #[.agg #[.int .i64 0,.int .i64 0,.int .i64 0],.int .i64 1])∧Below w w w':=by
 have I:=hide (show dI c=0 by simp [dI,G]);have o:decide (1≤lv∧lv≤5)=false:=by simpa using H
 clear G H;simp only [aI];go_enter Tryz.func10,Tryz.ntmps10;go_wp2_with fail;refine (bg c _ V).mono ?_;rintro e h ⟨rfl,f⟩;rw [I.out];have W:h.cell? ⟨w+1,0,none⟩=some (.int .i64 0):=ap f;have J:h.frozen? ⟨w+1,0,none⟩=false:=an f;have r1:h.cell? ⟨w+1,1,none⟩=some (.int .i64 0):=ap f;have O:h.frozen? ⟨w+1,1,none⟩=false:=an f;have r2:h.cell? ⟨w+1,2,none⟩=some (.int .i64 0):=ap f;have U:h.frozen? ⟨w+1,2,none⟩=false:=an f;have E:w.heap.size+1<h.heap.size:=am f;have F:=(show Below w w h by (repeat' exact bel));clear f;go_wp2_with (go_at_call 21;refine (bT _ _).mono ?_;rintro e w' ⟨rfl,rfl⟩;rw [o]);exact bodyPost_ret (v:=.tuple #[.agg #[.int .i64 0,.int .i64 0,.int .i64 0],.int .i64 1]) (by simp (maxDischargeDepth:=9) [results,Tryz.results10,go_sem,W,r1,r2,J,O,U,E]) rfl ⟨rfl,by (repeat' exact bel)⟩
theorem AG (c:aC) (d lv:Int) (w:World) (hn:c.name.size≤1000) (hk:c.okB=true) (hl:1≤lv∧lv≤5) (hs:¬ cA c d=0) :
  Calls Tryz.prog 10 #[aI c,d,lv] w fun e w'=>e=.returned (.tuple #[.agg #[.int .i64 0,.int .i64 0,.int .i64 0],cA c d])∧Below w w w':=by
 have HO:=hide (show dI c=0 by simp [dI,hk]);have I:decide (1≤lv∧lv≤5)=true:=by simpa using hl
 have ab:(cA c d != 0)=true:=by simpa using hs
 clear hk hl hs;simp only [aI];go_enter Tryz.func10,Tryz.ntmps10;go_wp2_with fail;refine (bg c _ hn).mono ?_;rintro e E ⟨rfl,f⟩;rw [HO.out];have r0:E.cell? ⟨w+1,0,none⟩=some (.int .i64 0):=ap f;have f0:E.frozen? ⟨w+1,0,none⟩=false:=an f;have r1:E.cell? ⟨w+1,1,none⟩=some (.int .i64 0):=ap f;have f1:E.frozen? ⟨w+1,1,none⟩=false:=an f;have r2:E.cell? ⟨w+1,2,none⟩=some (.int .i64 0):=ap f;have f2:E.frozen? ⟨w+1,2,none⟩=false:=an f;have o:w.heap.size+1<E.heap.size:=am f;have O:w.heap.size<E.heap.size:=om;have G:=hide (show Below w w E by (repeat' exact bel));have H:=hide (show bR E w c from az f ag (bG (be w c) af _));clear f;obtain ⟨q0,q1,q2,q3,q4,q5,q6,q7,q8,q9,U,V,W,Y⟩:=H.out;go_wp2_with (go_at_call 21;refine (bT _ _).mono ?_;rintro e w' ⟨rfl,rfl⟩;rw [I]);refine (mz c d _ hn).mono ?_;rintro e F ⟨rfl,h⟩;clear q0 q1 q2 q3 q4 q5 q6 q7 q8 q9 U V W Y;have s0:F.cell? ⟨w+1,0,none⟩=some (.int .i64 0):=by rw [h.cell (p:=⟨w+1,0,none⟩) o];exact r0
 have k0:F.frozen? ⟨w+1,0,none⟩=false:=by rw [h.frozen (p:=⟨w+1,0,none⟩) o];exact f0
 have s1:F.cell? ⟨w+1,1,none⟩=some (.int .i64 0):=by rw [h.cell (p:=⟨w+1,1,none⟩) o];exact r1
 have k1:F.frozen? ⟨w+1,1,none⟩=false:=by rw [h.frozen (p:=⟨w+1,1,none⟩) o];exact f1
 have s2:F.cell? ⟨w+1,2,none⟩=some (.int .i64 0):=by rw [h.cell (p:=⟨w+1,2,none⟩) o];exact r2
 have k2:F.frozen? ⟨w+1,2,none⟩=false:=by rw [h.frozen (p:=⟨w+1,2,none⟩) o];exact f2
 clear r0 r1 r2 f0 f1 f2;have J:w.heap.size+1<F.heap.size:=Nat.lt_of_lt_of_le o h.size;have aa:=G.out.trans (h.mono (Nat.le_of_lt O));clear h;go_wp2;exact bodyPost_ret (v:=.tuple #[.agg #[.int .i64 0,.int .i64 0,.int .i64 0],cA c d]) (by simp (maxDischargeDepth:=9) [results,Tryz.results10,go_sem,s0,s1,s2,k0,k1,k2,J]) rfl ⟨rfl,by (repeat' exact bel)⟩
def mj (c:aC) (y:Int) (F f cap h B:Nat) (w:World):Prop:=ax w F #[y,.slice (some ⟨f,0,none⟩) (ce c y) cap,.slice (some ⟨h,0,none⟩) (aV c y) (aV c y)] 76∧bO w f h c y∧ax w B #[.int .i64 0,.int .i64 0,.int .i64 0] 33
theorem mj.call {c:aC} {y:Int} {F o cap E B:Nat} {w w':World} (h:mj c y F o cap E B w) (f:Below w w w'):mj c y F o cap E B w':=
 ⟨h.1.call f,h.2.1.call f,h.2.2.call f⟩
theorem mj.drew {c:aC} {y:Int} {F f cap o B:Nat} {w:World} (h:mj c y F f cap o B w):mj c y F f cap o B w.drew:=h
theorem mj.load {c:aC} {y:Int} {F f cap o B:Nat} {w':World} (h:mj c y F f cap o B w'):w'.cell? ⟨F,0,none⟩=some (.int .i64 y)∧w'.cell? ⟨F,1,none⟩=some (.slice (some ⟨f,0,none⟩) (ce c y) cap)∧w'.cell? ⟨F,2,none⟩=some (.slice (some ⟨o,0,none⟩) (aV c y) (aV c y)):=
 ⟨h.1.cell 0,h.1.cell 1,h.1.cell 2⟩
theorem mj.res {c:aC} {y:Int} {F f cap o B:Nat} {w':World} (h:mj c y F f cap o B w') :
  (w'.cell? ⟨B,0,none⟩=some (.int .i64 0)∧w'.cell? ⟨B,1,none⟩=some (.int .i64 0)∧w'.cell? ⟨B,2,none⟩=some (.int .i64 0)) ∧
  (w'.frozen? ⟨B,0,none⟩=false∧w'.frozen? ⟨B,1,none⟩=false∧w'.frozen? ⟨B,2,none⟩=false):=
 ⟨⟨h.2.2.cell 0,h.2.2.cell 1,h.2.2.cell 2⟩,⟨h.2.2.frozen 0,h.2.2.frozen 1,h.2.2.frozen 2⟩⟩
theorem Am {f:Array Value} {W:World} {B:Nat} {o E F e:Int} (J:f[6]?=some (.pointer (some ⟨B,0,none⟩))) (O:f[7]?=some (.int .i64 e))
  (h:ax W B #[o,E,F] 33) :
  (results Tryz.f10 f).run Tryz.prog W=.ok (.tuple #[.agg #[o,E,F],e]) W:=by
 have G:=h.cell 0;have H:=h.cell 1;have I:=h.cell 2;simp at G H I;simp [results,Tryz.results10,go_sem,J,O,G,H,I]
theorem qw (c:aC) (d lv:Int) (w:World) (hn:c.name.size≤1000) (hE:fq c d lv=0) :
  Calls Tryz.prog 10 #[aI c,d,lv] w fun e w'=>e=.returned (.tuple #[.agg #[lv,aH c d,.int .i64 ((jt c (aH c d) lv (nD c (aH c d) d):Int)+1)],.int .i64 0])∧Below w w w':=by
 obtain ⟨hk,h1,h5,hs,hd,hy,hf⟩:=eW hE;have bt:0≤d∧d<3068037:=by simpa [cH] using hd
 have HO:=hide (show dI c=0 by simp [dI,hk]);have bc:decide (1≤lv∧lv≤5)=true:=ag;obtain ⟨y,O⟩:∃ y,y=aH c d:=⟨_,rfl⟩;rw [← O] at hy hf ⊢;have a9:=hide O;have HS:=hide hs;have HA:=hide hy.1;have HF:=hide hf;clear hE hk hs hd hy hf O;simp only [aI];go_enter Tryz.func10,Tryz.ntmps10;go_wp2_with fail;refine (bg c _ hn).mono ?_;rintro e o ⟨rfl,f⟩;rw [HO.out];have r0:o.cell? ⟨w+1,0,none⟩=some (.int .i64 0):=ap f;have f0:o.frozen? ⟨w+1,0,none⟩=false:=an f;have r1:o.cell? ⟨w+1,1,none⟩=some (.int .i64 0):=ap f;have f1:o.frozen? ⟨w+1,1,none⟩=false:=an f;have r2:o.cell? ⟨w+1,2,none⟩=some (.int .i64 0):=ap f;have f2:o.frozen? ⟨w+1,2,none⟩=false:=an f;have a1:w.heap.size+1<o.heap.size:=am f;have a0:w.heap.size<o.heap.size:=om;have a4:=hide (show Below w w o by (repeat' exact bel));have ao:=hide (show bR o w c from az f ag (bG (be w c) af _));have G1:ax o (w+1) #[.int .i64 0,.int .i64 0,.int .i64 0] 33:=ax.below (by simpa using ax.new (w.alloc (df c)) #[.int .i64 0,.int .i64 0,.int .i64 0] 33) f af;clear f;obtain ⟨q0,q1,q2,q3,q4,q5,q6,q7,q8,q9,U,V,Y,aa⟩:=ao.out;go_wp2_with (go_at_call 21;refine (bT _ _).mono ?_;rintro e w' ⟨rfl,rfl⟩;rw [bc]);refine (mz c d _ hn).mono ?_;rintro e w2 ⟨rfl,E⟩;clear q0 q1 q2 q3 q4 q5 q6 q7 q8 q9 U V Y aa;rw [HS.out,← a9.out];have ab:ax o (w+1) #[.int .i64 0,.int .i64 0,.int .i64 0] 33:=G1;have GB:=hide (ab.call E);have a7:=hide (show bR w2 w c from az E a0 ao.out);have a2:w.heap.size+1<w2.heap.size:=Nat.lt_of_lt_of_le a1 E.size;have a3:w.heap.size<w2.heap.size:=om;have a5:=hide (a4.out.trans (E.mono (Nat.le_of_lt a0)));clear E r0 r1 r2 f0 f1 f2;obtain ⟨q0,q1,q2,q3,q4,q5,q6,q7,q8,q9,U,V,Y,aa⟩:=a7.out;go_wp2_with fail;refine (iJ c lv y _ hn HF.out).mono ?_;rintro e w3 ⟨g1,cap,g2,ba,bb,rfl,bp,bs,aB,G⟩;clear q0 q1 q2 q3 q4 q5 q6 q7 q8 q9 U V Y aa;have ac:=hide (GB.out.call G);have al:=hide aB;have bh:w.heap.size+1<w3.heap.size:=Nat.lt_of_lt_of_le a2 G.size;have ad:=hide (a5.out.trans (G.mono (Nat.le_of_lt a3)));clear G aB ba bb;have bd:w.heap.size+1≠w3.heap.size:=om;have h:w.heap.size≤w.heap.size+1:=om;clear ab G1;generalize w.heap.size+1=B at *;obtain ⟨F,hF⟩:∃ F,F=w3.heap.size:=⟨_,rfl⟩;have HD:=hide (show mj c y F g1 cap g2 B (w3.alloc (.cells #[.int .i64 y,.slice (some ⟨g1,0,none⟩) (ce c y) cap,.slice (some ⟨g2,0,none⟩) (aV c y) (aV c y)] 76)) from ⟨by rw [hF];exact ax.new w3 _ _,al.out.alloc _,ac.out.alloc _⟩);have aq:=hide (show Below w w (w3.alloc (.cells #[.int .i64 y,.slice (some ⟨g1,0,none⟩) (ce c y) cap,.slice (some ⟨g2,0,none⟩) (aV c y) (aV c y)] 76)) from ad.out.alloc om _);go_wp2_with fail;rw [← hF];generalize w3.alloc (.cells #[.int .i64 y,.slice (some ⟨g1,0,none⟩) (ce c y) cap,.slice (some ⟨g2,0,none⟩) (aV c y) (aV c y)] 76)=W at *;obtain ⟨k0,k1,k2⟩:=HD.out.load;have bl:w.heap.size≤W.heap.size:=aq.out.size;have a6:=hide h;clear al hF ad ac h bd bh a2 a1
 go_region_with (first
  | (go_at_call 30;refine (xt c y d _ cap g1 g2 HA.out ?_ om).mono ?_;exact HD.out.2.1.1;rintro e w4 ⟨rfl,I⟩;have H:=hide (HD.out.drew.call (by exact I));have aA:=hide (aq.out.drew.trans (I.mono (by exact bl)):Below w w w4);obtain ⟨m0,m1,m2⟩:=H.out.load;have bk:w.heap.size≤w4.heap.size:=aA.out.size;clear I)
  | (go_at_call 29;refine (lx c y lv _ cap g1 g2 h1 h5 HA.out ?_ _).mono ?_;exact H.out.2.1.2;rintro e w5 ⟨rfl,J⟩;have ah:=hide (H.out.call (by exact J));have a8:=hide (aA.out.trans (J.mono (by exact bk)):Below w w w5);obtain ⟨⟨p0,p1,p2⟩,⟨p6,p7,p8⟩⟩:=ah.out.res;clear J))
 all_goals
  have h:=a6.out;go_simp;go_wp2;exact bodyPost_ret (v:=.tuple #[.agg #[lv,.int .i64 y,.int .i64 ((jt c y lv (nD c y d):Int)+1)],.int .i64 0]) (by exact Am rfl rfl (ah.out.2.2.set123 _ _ _)) rfl ⟨rfl,((a8.out.setCell h _).setCell h _).setCell h _⟩
theorem iV (c:aC) (d lv:Int) (w:World) (G:c.name.size≤1000) :
  Calls Tryz.prog 10 #[aI c,d,lv] w fun e w'=>e=.returned (.tuple #[aZ (gj c d lv),fq c d lv])∧Below w w w':=by
 by_cases o:fq c d lv=0
 ·refine (qw c d lv w G o).mono ?_
  rintro e J ⟨rfl,I⟩;exact ⟨by rw [gj,if_pos o,o],I⟩
 ·have H:gj c d lv=⟨0,0,0⟩:=by rw [gj,if_neg o]
  rw [H];cases E:c.okB
  ·have f:fq c d lv=1:=by unfold fq;rw [if_neg (by rw [E];simp)]
   rw [f];exact zD c d lv w G E
  ·by_cases F:1≤lv∧lv≤5
   ·have f:fq c d lv=cA c d:=by unfold fq;rw [if_pos ⟨E,F⟩]
    rw [f];exact AG c d lv w G E F (by rw [← f];exact o)
   ·have f:fq c d lv=1:=by unfold fq;rw [if_neg (fun h=>F h.2)]
    rw [f];exact Db c d lv w G E F
theorem qY {w:World} {f n:Nat} {v:Value} {H:List Value} {e:TypeId} {o:Nat} (h:w.ownsRow f e o v n H) (G:0<n):∃ g cap,v=.slice (some ⟨g,0,none⟩) n cap∧f≤g:=by
 obtain ⟨g,cap,E,_,_,F⟩:=jI h G;exact ⟨g,cap,E,F⟩
def nt (u:Un):Un:=⟨u.lv,u.yr,u.ix+1⟩
def rB (u:Un):Un:=⟨u.lv,u.yr+1,1⟩
def xy (c:aC) (u:Un):Int:=if aU c u=0 then (if aU c (nt u)=0 then 0 else aU c (rB u)) else aU c u
def tf (c:aC) (u:Un):Un:=if aU c u=0 then (if aU c (nt u)=0 then nt u else if aU c (rB u)=0 then rB u else ⟨0,0,0⟩) else ⟨0,0,0⟩
def H8 (c:aC) (u:Un):Int:=if aU c u=0 then (if 1<u.ix then 0 else aR c u.lv (u.yr-1)) else aU c u
def Hw (c:aC) (u:Un):Un:=if aU c u=0 then (if 1<u.ix then ⟨u.lv,u.yr,u.ix-1⟩ else if aR c u.lv (u.yr-1)=0 then ⟨u.lv,u.yr-1,(aM c (u.yr-1) u.lv:Int)⟩ else ⟨0,0,0⟩) else ⟨0,0,0⟩
theorem ax.three {w:World} {B:Nat} {a b c:Value} {t:TypeId} (h:ax w B #[a,b,c] t) :
  (w.cell? ⟨B,0,none⟩=some a∧w.cell? ⟨B,1,none⟩=some b∧w.cell? ⟨B,2,none⟩=some c)∧(w.frozen? ⟨B,0,none⟩=false∧w.frozen? ⟨B,1,none⟩=false∧w.frozen? ⟨B,2,none⟩=false):=
 ⟨⟨h.cell 0,h.cell 1,h.cell 2⟩,h.frozen 0,h.frozen 1,h.frozen 2⟩
theorem Ai {c:aC} {lv y:Int} (E:c.okB=true) (f:1≤lv) (o:lv≤5) (h:y<c.first∨c.last<y):aR c lv y=11:=by
 unfold aR;rw [if_pos E,if_pos ⟨f,o⟩,if_neg om]
theorem nf {c:aC} {u:Un} (h:aU c u=0) :
  (xy c u=0∧(dD c u).b<bB c c.last∧aU c (tf c u)=0∧(dD c (tf c u)).a=(dD c u).b+1∧H8 c (tf c u)=0∧Hw c (tf c u)=u)∨(xy c u=11∧tf c u=⟨0,0,0⟩∧(dD c u).b=bB c c.last):=by
 obtain ⟨O,o,E,J,hx,hi⟩:=ev h;obtain ⟨H,hk,_,_,ad,aa,_⟩:=bv O;obtain ⟨y1,y2,y3,y4,y5⟩:=fS hk;obtain ⟨lv,f,ix⟩:=u;simp only at O o E J hi ad aa;obtain ⟨i,ac⟩:∃ i,i=uI ⟨lv,f,ix⟩:=⟨_,rfl⟩;rw [← ac] at hx hi;obtain rfl:ix=(i:Int)+1:=hx;have hS:=jR O i hi;have hb:(dD c ⟨lv,f,(i:Int)+1⟩).b=cf c f (aX c f lv (i+1))-1:=by rw [hS]
 rw [hb];by_cases G:i+1<aM c f lv
 ·left
  obtain ⟨F,_,_⟩:=ju O (i+1) G;have I:nt ⟨lv,f,(i:Int)+1⟩=⟨lv,f,((i+1:Nat):Int)+1⟩:=by simp [nt]
  have eU:tf c ⟨lv,f,(i:Int)+1⟩=⟨lv,f,((i+1:Nat):Int)+1⟩:=by rw [tf,if_pos h,I,if_pos F]
  have eE:xy c ⟨lv,f,(i:Int)+1⟩=0:=by rw [xy,if_pos h,I,if_pos F]
  rw [eU,eE];refine ⟨rfl,?_,F,?_,?_,?_⟩
  ·have b1:=mc c f J (kg c f J lv o E G (Nat.le_refl _)) (cu c f J lv o E _ (Nat.le_refl _))
   have b2:=kg c f J lv o E G (Nat.le_refl _);rw [gu c f lv o E,dy c f J] at b1;have:=mY c H (show 1600≤f by omega) aa om;rw [gu c f lv o E] at b2;omega
  ·rw [jR O (i+1) G]
   simp only;omega
  ·rw [H8,if_pos F,if_pos ag]
  ·rw [Hw,if_pos F,if_pos ag]
   simp
 ·have hn:i+1=aM c f lv:=om
  have I:¬ aU c (nt ⟨lv,f,(i:Int)+1⟩)=0:=by
   intro h2;have:=(it h2).2;simp [nt,uI] at this;omega
  have Y:cf c f (aX c f lv (i+1))-1=bB c f:=by
   rw [hn,gu c f lv o E,dy c f J];omega
  rw [Y];by_cases hy:f+1≤c.last
  ·left
   have U:aR c lv (f+1)=0:=fN H o E om hy;have W:aP c (f+1) 1601=0:=(bv U).2.2.2.2.2.2;have ah:=jB c (f+1) W lv;obtain ⟨F,_,_⟩:=ju U 0 om;have V:aU c (rB ⟨lv,f,(i:Int)+1⟩)=0:=F;have eU:tf c ⟨lv,f,(i:Int)+1⟩=⟨lv,f+1,((0:Nat):Int)+1⟩:=by rw [tf,if_pos h,if_neg I,if_pos V];rfl
   have eE:xy c ⟨lv,f,(i:Int)+1⟩=0:=by rw [xy,if_pos h,if_neg I,V]
   rw [eU,eE];refine ⟨rfl,?_,F,?_,?_,?_⟩
   ·have:=mp c f H om 1 om
    have:=mY c H (show 1600≤f+1 by omega) hy om;simp at *;omega
   ·rw [jR U 0 om,ox,iv,eI c f W]
   ·rw [H8,if_pos F,if_neg af]
    simp only;rw [show f+1-1=f by omega];exact O
   ·rw [Hw,if_pos F,if_neg af]
    simp only;rw [show f+1-1=f by omega,if_pos O,← hn];simp
  ·right
   have ab:aU c (rB ⟨lv,f,(i:Int)+1⟩)=11:=by
    have:=Ai hk o E (y:=f+1) om;unfold aU rB;simp only;rw [if_neg om,this]
   refine ⟨by rw [xy,if_pos h,if_neg I,ab],by rw [tf,if_pos h,if_neg I,if_neg om],?_⟩;rw [show f=c.last by omega]
theorem yh {c:aC} {u:Un} (h:aU c u=0):0≤(dD c u).a∧(dD c u).a≤(dD c u).b∧(dD c u).b≤3068037:=by
 obtain ⟨J,G,H,o,O,hi⟩:=ev h;have f:=iR h;rw [iQ h];have E:=cj c u.yr o (Nat.zero_le (dz c u)) om;have F:=cj c u.yr o f.2 (Nat.le_refl _);have I:=mc c u.yr o f.1 f.2;rw [iv] at E;rw [dy c u.yr o] at F;have:=dm c u.yr o;simp only;omega
end
end Go.Proofs.YtpebkobmhhnojaaGreatDoor
