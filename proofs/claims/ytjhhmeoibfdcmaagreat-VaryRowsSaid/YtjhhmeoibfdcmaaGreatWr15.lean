/- Lemmas. -/
import Derived.WalkSmall
import Derived.Test.YtjhhmeoibfdcmaaGreatWr04
import Derived.Test.YtjhhmeoibfdcmaaGreatWr06
import Derived.Test.YtjhhmeoibfdcmaaGreatWr07
import Derived.Test.YtjhhmeoibfdcmaaGreatWr11
import Derived.Test.YtjhhmeoibfdcmaaGreatWr13
set_option linter.unusedSimpArgs false
set_option linter.unusedVariables false
set_option maxRecDepth 100000
set_option maxHeartbeats 12800000
namespace Go.Proofs.YtjhhmeoibfdcmaaGreat
section
open Go.RowKit Qd
theorem sj (s:Sp) (d:Int) (w:World) (f:-100000000≤s.b∧s.b≤100000000) (E:-100000000≤d∧d≤100000000) :
  Calls Tryz.prog 93 #[.agg #[s.a,s.b],d] w fun e H=>e=.returned (.int .i64 (s.b-d))∧Below w w H:=by
 obtain ⟨h,o⟩:=f;obtain ⟨F,G⟩:=E;go_enter Tryz.func93,Tryz.ntmps93;go_wp2;go_ret;exact ⟨rfl,by (repeat' exact bel)⟩
def Hm (l:List (Int × Int)) (x:Int) (w:World) (e:Ending) (f:World):Prop:=∃ b,e=.returned (.tuple #[.int .i64 (CS (l.map Prod.snd) x:Int),.bool b])∧Below w w f
theorem t9 (l:List (Int × Int)) (i:Nat) (hi:i<l.length):(l.map Prod.snd)[i]?.getD 0=(l[i]?.getD (0,0)).2:=by simp [hi]
theorem tY (g cap:Nat) (l:List (Int × Int)) (x:Int) (w:World) (hl:l.length≤100000) (hI:cP w g l) (O:-100000000≤x∧x≤100000000) (hv:∀ i,i<l.length→-100000000≤(l[i]?.getD (0,0)).2∧(l[i]?.getD (0,0)).2≤100000000)
  (hs:∀ i j,i≤j→j<l.length→(l[i]?.getD (0,0)).2≤(l[j]?.getD (0,0)).2) :
  Calls Tryz.prog 92 #[.slice (some ⟨g,0,none⟩) l.length cap,x,.func (.func 93) #[] #[]] w (Hm l x w):=by
 obtain ⟨S,T⟩:=O;have HS:=hide hs;have HI:=hide hI;have HV:=hide hv;obtain ⟨n,U⟩:∃ n,n=l.length:=⟨_,rfl⟩;have aq:n≤100000:=om;have E:=hide U;rw [← U];clear hs hI U hl hv;go_enter Tryz.func92,Tryz.ntmps92;go_wp2_with fail;go_loopw [9,10] (fun s7 s8 wr=>∃ a b:Nat,s7=.int .i64 a∧s8=.int .i64 b∧a≤b∧b≤n∧Hid (∀ t,t<a→(l[t]?.getD (0,0)).2<x)∧Hid (∀ t,b≤t→t<n→x≤(l[t]?.getD (0,0)).2)∧Below w w wr) (fun s7 s8 _=>(intOf s8-intOf s7).toNat)
 case atStart=>exact ⟨0,n,rfl,rfl,by omega,by omega,hide (fun t ht=>by omega),hide (fun t h1 R=>by omega),Below.refl _ _⟩
 case round =>
  obtain ⟨a,b,rfl,rfl,ah,ab,HA,HB,J⟩:=hrel;have hg:=HI.out.call J;have HG:=hide hg;clear hg;by_cases al:a<b
  ·have f:=HG.out.2 ((a+b) / 2) (by rw [← E.out];omega)
   have W:wr.cell? ⟨g,(a+b) / 2*2,none⟩=some (.int .i64 (l[(a+b) / 2]?.getD (0,0)).1):=by rw [Nat.mul_comm];exact f.1
   have c2:wr.cell? ⟨g,(a+b) / 2*2+1,none⟩=some (.int .i64 (l[(a+b) / 2]?.getD (0,0)).2):=by rw [Nat.mul_comm];exact f.2
   have I:=HV.out ((a+b) / 2) (by rw [← E.out];omega);obtain ⟨G,H⟩:=I;clear f;go_wp2_with fail;refine (sj ⟨(l[(a+b) / 2]?.getD (0,0)).1,(l[(a+b) / 2]?.getD (0,0)).2⟩ x _ ⟨G,H⟩ ⟨S,T⟩).mono ?_;rintro e w1 ⟨rfl,o⟩;have F:=hide (J.trans (o.mono J.size));clear o W c2;by_cases O:(l[(a+b) / 2]?.getD (0,0)).2<x
   ·have V:=hide O
    have ad:(l[(a+b) / 2]?.getD (0,0)).2-x<0:=om;clear O;go_wp2;refine ⟨⟨(a+b) / 2+1,b,?_,rfl,by omega,ab,hide (fun t ht=>?_),HB,F.out⟩,by simp [intOf];omega⟩
    ·congr 1
    ·have h1:=HS.out t ((a+b) / 2) om (by rw [← E.out];omega)
     have R:=V.out;omega
   ·have V:=hide O
    have ad:0≤(l[(a+b) / 2]?.getD (0,0)).2-x:=om;clear O;go_wp2;refine ⟨⟨a,(a+b) / 2,rfl,?_,by omega,by omega,HA,hide (fun t ay aA=>?_),F.out⟩,by simp [intOf];omega⟩
    ·congr 1
    ·have h1:=HS.out ((a+b) / 2) t om (by rw [← E.out];omega)
     have R:=V.out;omega
  ·obtain rfl:a=b:=om
   have HR:=hide (show CS (l.map Prod.snd) x=a from tb _ x a (by simp;rw [← E.out];omega) (fun j hj=>by rw [t9 l j (by rw [← E.out];omega)];exact HA.out j hj) (fun h=>by
    have R:a<l.length:=by simpa using h
    rw [t9 l a R];exact HB.out a (Nat.le_refl _) (by rw [E.out];exact R)))
   by_cases U:a<n
   ·have f:=HG.out.2 a (by rw [← E.out];omega)
    have W:wr.cell? ⟨g,a*2,none⟩=some (.int .i64 (l[a]?.getD (0,0)).1):=by rw [Nat.mul_comm];exact f.1
    have c2:wr.cell? ⟨g,a*2+1,none⟩=some (.int .i64 (l[a]?.getD (0,0)).2):=by rw [Nat.mul_comm];exact f.2
    have I:=HV.out a (by rw [← E.out];omega);obtain ⟨G,H⟩:=I;clear f;go_wp2_with fail;refine (sj ⟨(l[a]?.getD (0,0)).1,(l[a]?.getD (0,0)).2⟩ x _ ⟨G,H⟩ ⟨S,T⟩).mono ?_;rintro e w1 ⟨rfl,o⟩;have F:=hide (J.trans (o.mono J.size));clear o W c2;go_wp2
    all_goals
     go_ret2;exact ⟨_,by rw [HR.out];rfl,F.out⟩
   ·go_wp2
    all_goals
     go_ret2;exact ⟨_,by rw [HR.out];rfl,J⟩
theorem tP (c:ar) (y:Int):0≤ax c y∧ax c y≤3068037:=by
 by_cases h:aO c y 1601=0
 ·have:=ch c y h;omega
 ·simp [ax,h]
theorem IF (c:ar) (y:Int) (h:aO c y 1601=0):0≤bv c y∧bv c y≤3068037:=by
 have:=ch c y h;omega
theorem pw (c:ar) (day y:Int) (w:World) (hn:c.name.size≤1000) (ah:c.Ok) (hd:cH day=true) (hy:-100≤y∧y≤20000) (E:∀ f,eO c day f→y-2≤f∧f≤y+2) :
    Calls Tryz.prog 204 #[av c,day,y] w fun e w'=>e=.returned (.tuple #[cC c day,gW c day,cG c day])∧Below w w w':=by
  have a7:0≤day∧day<3068037:=by simpa [cH] using hd
  have aF:=hide E;have a5:=hide ah;have HD:=hide hd;have S:c.okB=true:=by simpa [ar.okB] using ah
  have a0:=hide S;clear E ah hd S;simp only [av];go_enter Tryz.func204,Tryz.ntmps204;go_wp2_with fail;go_loopw [9] (fun s9 wr=>∃ z:Int,s9=.int .i64 z∧y-2≤z∧z≤y+3∧Hid (∀ f,eO c day f→z≤f)∧aG wr w c∧w.heap.size<wr.heap.size∧Below w w wr) (fun s9 _=>(y+3-intOf s9).toNat)
  case atStart=>exact ⟨y-2,rfl,by omega,by omega,hide (fun f h=>(aF.out f h).1),au w c,by simp,by (repeat' exact bel)⟩
  case round =>
    obtain ⟨z,rfl,bc,bd,HZ,hQ,ad,hB⟩:=hrel;have HQ:=hide hQ;have HB:=hide hB;obtain ⟨q0,q1,q2,q3,q4,q5,q6,q7,q8,q9,al,aq,ay,aA⟩:=hQ;clear hB;by_cases ba:z≤y+2
    · have bb:=tP c z
      go_wp2_with fail;refine (dN c z _ hn).mono ?_;rintro e w1 ⟨rfl,H⟩;clear q0 q1 q2 q3 q4 q5 q6 q7 q8 q9 al aq ay aA;have ab:=hide (aa H ad HQ.out);have aB:=hide (HB.out.trans (H.mono (Nat.le_of_lt ad)));have o:w.heap.size<w1.heap.size:=Nat.lt_of_lt_of_le ad H.size;clear H;by_cases O:aO c z 1601=0
      · have a8:=IF c z O
        have HA:=hide O;have a4:=hide (fo O);rw [O];clear O;obtain ⟨q0,q1,q2,q3,q4,q5,q6,q7,q8,q9,al,aq,ay,aA⟩:=ab.out;go_wp2_with fail;refine (oG c z _ hn).mono ?_;rintro e w2 ⟨rfl,I⟩;rw [a4.out];clear q0 q1 q2 q3 q4 q5 q6 q7 q8 q9 al aq ay aA;have a1:=hide (aa I o ab.out);have T:=hide (aB.out.trans (I.mono (Nat.le_of_lt o)));have R:w.heap.size<w2.heap.size:=Nat.lt_of_lt_of_le o I.size;clear I;by_cases F:ax c z≤day∧day≤bv c z
        · have J:=eX HD.out (show eO c day z from ⟨HA.out,F.1,F.2⟩)
          have U:=hide J.1;have V:=hide J.2.1;have W:=hide J.2.2;obtain ⟨a2,a3⟩:=F;clear J;go_wp2
          all_goals first
            | (exfalso;omega)
            | (go_ret3;exact ⟨by (rw [U.out,V.out,W.out]) <;> rfl,T.out⟩)
        · have G := hide (show ∀ f, eO c day f → z + 1 ≤ f from fun f h => by
            have h1:=HZ.out f h;by_cases h2:f=z
            · subst h2;exact absurd ⟨h.2.1,h.2.2⟩ F
            · omega)
          rcases (show day<ax c z∨(ax c z≤day∧bv c z<day) by omega) with F | ⟨a2,a3⟩
          · go_wp2
            all_goals first
              | (exfalso;omega)
              | exact ⟨⟨z+1,rfl,by omega,by omega,G,a1.out,R,T.out⟩,by simp [intOf];omega⟩
          · go_wp2
            all_goals first
              | (exfalso;omega)
              | exact ⟨⟨z+1,rfl,by omega,by omega,G,a1.out,R,T.out⟩,by simp [intOf];omega⟩
      · have a6:(aO c z 1601 != 0)=true:=by simpa using O
        have G := hide (show ∀ f, eO c day f → z + 1 ≤ f from fun f h => by
            have h1:=HZ.out f h;by_cases h2:f=z
            · subst h2;exact absurd h.1 O
            · omega)
        clear O;go_wp2
        all_goals first
          | (exfalso;omega)
          | exact ⟨⟨z+1,rfl,by omega,by omega,G,ab.out,o,aB.out⟩,by simp [intOf];omega⟩
    · have J := fw (c := c) (day := day) (by
        rintro ⟨f,h⟩;have h1:=HZ.out f h;have h2:=aF.out f h;omega)
      have U:=hide J.1;have V:=hide J.2.1;have W:=hide (J.2.2 a0.out HD.out);clear J;go_wp2
      all_goals first
        | (exfalso;omega)
        | (go_ret3;exact ⟨by (rw [U.out,V.out,W.out]) <;> rfl,HB.out⟩)
theorem Be (c:ar) (day:Int) (w:World) (J:c.name.size≤1000) (H:c.okB=false) :
  Calls Tryz.prog 142 #[av c,day] w fun e O=>e=.returned (.tuple #[cC c day,gW c day,cG c day])∧Below w w O:=by
 have h:=jZ (day:=day) H;have E:=hide h.1;have F:=hide h.2.1;have G:=hide h.2.2;have I:co c=1:=by simp [co,H]
 clear h H;simp only [av];go_enter Tryz.func142,Tryz.ntmps142;go_wp2_with fail;refine (bs c _ J).mono ?_;rintro e R ⟨rfl,f⟩;rw [I];have o:=hide (Below.trans ((Below.refl _ _).alloc (Nat.le_refl _) _) (f.mono ac):Below w w R);clear f;go_wp2;go_ret3;exact ⟨by (rw [E.out,F.out,G.out]) <;> rfl,o.out⟩
theorem Cc (c:ar) (day:Int) (w:World) (U:c.name.size≤1000) (O:c.okB=true) (R:cH day=false) :
  Calls Tryz.prog 142 #[av c,day] w fun e W=>e=.returned (.tuple #[cC c day,gW c day,cG c day])∧Below w w W:=by
 have E:=ic (c:=c) R;have H:=hide E.1;have I:=hide E.2.1;have J:=hide (E.2.2 O);have T:co c=0:=by simp [co,O]
 clear E O;simp only [av];go_enter Tryz.func142,Tryz.ntmps142;go_wp2_with fail;refine (bs c _ U).mono ?_;rintro e S ⟨rfl,f⟩;rw [T];have o:w.heap.size<S.heap.size:=aj f;have F:=hide (Below.trans ((Below.refl _ _).alloc (Nat.le_refl _) _) (f.mono ac):Below w w S);clear f;go_wp2_with fail;refine (IE day _ R).mono ?_;rintro e w2 ⟨rfl,h⟩;have G:=hide (F.out.trans (h.mono (Nat.le_of_lt o)));have V:w.heap.size<w2.heap.size:=Nat.lt_of_lt_of_le o h.size;clear h;go_wp2;go_ret3;exact ⟨by (rw [H.out,I.out,J.out]) <;> rfl,by have:=G.out;(repeat' exact bel)⟩
theorem Dm (c:ar) (day:Int) (w:World) (hn:c.name.size≤1000) (hk:c.okB=true) (hd:cH day=true) :
    Calls Tryz.prog 142 #[av c,day] w fun e w'=>e=.returned (.tuple #[cC c day,gW c day,cG c day])∧Below w w w':=by
  have aq:c.Ok:=by simpa [ar.okB] using hk
  have hE:co c=0:=by simp [co,hk]
  have a2:0≤day∧day<3068037:=by simpa [cH] using hd
  obtain ⟨hm,hs,_,_⟩:=cg aq;obtain ⟨o1,o2,_,_⟩:=nd day a2.1 a2.2;have bb:=hide (fun f (h:eO c day f)=>Is h hd);have R:=hide aq;have HD:=hide hd;clear hk aq hd;simp only [av];go_enter Tryz.func142,Tryz.ntmps142;go_wp2_with fail;refine (bs c _ hn).mono ?_;rintro e w1 ⟨rfl,U⟩;rw [hE];have aA:w.heap.size<w1.heap.size:=aj U;have a5:=hide (Below.trans ((Below.refl _ _).alloc (Nat.le_refl _) _) (U.mono ac):Below w w w1);have HQ:=hide (aa U ac (au w c));clear U;go_wp2_with fail;refine (xf day _ HD.out).mono ?_;rintro e w2 ⟨rfl,V⟩;have a0:=hide (aa V aA HQ.out);have a6:=hide (a5.out.trans (V.mono (Nat.le_of_lt aA)));have bh:w.heap.size<w2.heap.size:=Nat.lt_of_lt_of_le aA V.size;clear V;obtain ⟨q0,q1,q2,q3,q4,q5,q6,q7,q8,q9,F,G,H,I⟩:=a0.out;go_wp2_with fail;clear q0 q1 q2 q3 q4 q5 q6 q7 q8 q9 F G H I;go_loopw [4,30] (fun s4 aB wr=>∃ (k:Nat) (y:Int),aB=.int .i64 k∧k≤3∧s4=.int .i64 y∧1500-k≤y∧y≤10000+k∧Hid (∀ f,eO c day f→y-2≤f∧f≤y+2)∧aG wr w c∧w.heap.size<wr.heap.size∧Below w w wr) (fun _ aB _=>(3-intOf aB).toNat)
  case atStart =>
    refine ⟨0,dL day-c.shift,rfl,by omega,by first | rfl | simp,by omega,by omega,hide (fun f h=>bb.out f h),az a0.out bh _,by simp;omega,?_⟩;have:=a6.out
    (repeat' exact bel)
  case round =>
    obtain ⟨k,y,rfl,hk,rfl,b0,b1,HZ,hQ,ab,hB⟩:=hrel;have bc:=hide hQ;have aF:=hide hB;obtain ⟨q0,q1,q2,q3,q4,q5,q6,q7,q8,q9,F,G,H,I⟩:=hQ;clear hB;by_cases bx:k<3
    · go_wp2_with fail
      refine (oG c y _ hn).mono ?_;rintro e w3 ⟨rfl,W⟩;clear q0 q1 q2 q3 q4 q5 q6 q7 q8 q9 F G H I;have S:=hide (aa W ab bc.out);have ah:=hide (aF.out.trans (W.mono (Nat.le_of_lt ab)));have E:w.heap.size<w3.heap.size:=Nat.lt_of_lt_of_le ab W.size;clear W;by_cases hA:aO c y 1600=0
      · rw [hA]
        have HA:=hide hA;have ay:=bo hA;have bl:=ay.2.1;have a4:=ay.2.2;clear hA ay;by_cases bw:bv c y<day
        · have J := hide (show ∀ f, eO c day f → y + 1 - 2 ≤ f ∧ f ≤ y + 1 + 2 from fun f h => by
            have h1:=HZ.out f h;have h3:y<f:=by
              rcases Int.lt_or_le y f with T | T
              · exact T
              · have:=qd c R.out (by have:=(bo h.1).2.1;omega) T a4
                have:=h.2.2;omega
            omega)
          go_wp2
          all_goals first
            | (exfalso;omega)
            | exact ⟨⟨k+1,y+1,by go_num,by omega,rfl,by omega,by omega,J,S.out,E,ah.out⟩,by simp [intOf];omega⟩
        · obtain ⟨q0,q1,q2,q3,q4,q5,q6,q7,q8,q9,F,G,H,I⟩:=S.out
          go_wp2_with fail
          all_goals first
            | (exfalso;omega)
            | skip
          refine (dN c y _ hn).mono ?_;rintro e w5 ⟨rfl,o⟩;clear q0 q1 q2 q3 q4 q5 q6 q7 q8 q9 F G H I;have a1:=hide (aa o E S.out);have al:=hide (ah.out.trans (o.mono (Nat.le_of_lt E)));have ad:w.heap.size<w5.heap.size:=Nat.lt_of_lt_of_le E o.size;clear o;have bX:=tP c y;have J:=hide (show (¬ (aO c y 1601=0∧ax c y≤day))→∀ f,eO c day f→y-1-2≤f∧f≤y-1+2 from fun bd f h=>by
            have h1:=HZ.out f h;have h3:f<y:=by
              rcases Int.lt_trichotomy f y with T | T | T
              · exact T
              · subst T;exact absurd ⟨h.1,h.2.1⟩ bd
              · have:=dl c R.out om T (bo h.1).2.2
                have:=h.2.1;omega
            omega)
          by_cases hS:aO c y 1601=0
          · by_cases a3:ax c y≤day
            · have hf:=eX HD.out (show eO c day y from ⟨hS,a3,by omega⟩)
              have a7:=hide hf.1;have a8:=hide hf.2.1;have ba:=hide hf.2.2;rw [hS];clear hf hS J;go_wp2
              all_goals first
                | (exfalso;omega)
                | (go_ret3;exact ⟨by (rw [a7.out,a8.out,ba.out]) <;> rfl,al.out⟩)
            · have O:=hide (J.out (fun h=>a3 h.2))
              rw [hS];clear hS J;go_wp2
              all_goals first
                | (exfalso;omega)
                | exact ⟨⟨k+1,y-1,by go_num,by omega,rfl,by omega,by omega,O,a1.out,ad,al.out⟩,by simp [intOf];omega⟩
          · have O:=hide (J.out (fun h=>hS h.1))
            have bt:(aO c y 1601==0)=false:=by simpa using hS
            clear hS J;go_wp2
            all_goals first
              | (exfalso;omega)
              | exact ⟨⟨k+1,y-1,by go_num,by omega,rfl,by omega,by omega,O,a1.out,ad,al.out⟩,by simp [intOf];omega⟩
      · have bp:(aO c y 1600 != 0)=true:=by simpa using hA
        clear hA;obtain ⟨q0,q1,q2,q3,q4,q5,q6,q7,q8,q9,F,G,H,I⟩:=S.out;go_wp2_with fail
        all_goals first
          | (exfalso;omega)
          | skip
        refine (pw c day y _ hn R.out HD.out om HZ.out).mono ?_;rintro e w5 ⟨rfl,o⟩;clear q0 q1 q2 q3 q4 q5 q6 q7 q8 q9 F G H I;go_wp2;go_ret3;exact ⟨rfl,ah.out.trans (o.mono (Nat.le_of_lt E))⟩
    · go_wp2_with fail
      all_goals first
        | (exfalso;omega)
        | skip
      refine (pw c day y _ hn R.out HD.out om HZ.out).mono ?_;rintro e w5 ⟨rfl,o⟩;clear q0 q1 q2 q3 q4 q5 q6 q7 q8 q9 F G H I;go_wp2;go_ret3;exact ⟨rfl,aF.out.trans (o.mono (Nat.le_of_lt ab))⟩
theorem Bp (c:ar) (day:Int) (w:World) (h:c.name.size≤1000) :
  Calls Tryz.prog 142 #[av c,day] w fun e E=>e=.returned (.tuple #[cC c day,gW c day,cG c day])∧Below w w E:=by
 cases f:c.okB
 ·exact Be c day w h f
 ·cases o:cH day
  ·exact Cc c day w h f o
  ·exact Dm c day w h f o
theorem Hh (c:ar) (day:Int) (w:World) (h:c.name.size≤1000) :
  Calls Tryz.prog 87 #[av c,day] w fun e o=>e=.returned (.tuple #[cC c day,cG c day])∧Below w w o:=by
 simp only [av];go_enter Tryz.func87,Tryz.ntmps87;go_wp2_with fail;refine (Bp c day _ h).mono ?_;rintro e E ⟨rfl,f⟩;go_wp2;go_ret2;exact ⟨rfl,Below.trans ((Below.refl _ _).alloc (Nat.le_refl _) _) (f.mono ac)⟩
theorem dR {c:ar} (h:c.okB=true):aO c c.first 1601=0∧aO c c.last 1601=0∧1602≤c.first∧c.last≤9996∧c.first≤c.last:=by
 have f:c.Ok:=by simpa [ar.okB] using h
 have o:=f.1;unfold ar.served at o;exact ⟨ja f om om,ja f om om,by omega,by omega,by omega⟩
theorem xK (c:ar) (w:World) (O:c.name.size≤1000) (E:c.okB=false) :
  Calls Tryz.prog 86 #[av c] w fun e S=>e=.returned (.tuple #[.agg #[.int .i64 0,.int .i64 0],.int .i64 1])∧Below w w S:=by
 have F:=hide (show aO c c.first 1601=1 by simp [aO,E]);clear E;simp only [av];go_enter Tryz.func86,Tryz.ntmps86;go_wp2_with fail;refine (dN c c.first _ O).mono ?_;rintro e h ⟨rfl,f⟩;rw [F.out];have R:h.cell? ⟨w+1,0,none⟩=some (.int .i64 0):=am f;have r1:h.cell? ⟨w+1,1,none⟩=some (.int .i64 0):=am f;have H:h.frozen? ⟨w+1,0,none⟩=false:=ak f;have I:h.frozen? ⟨w+1,1,none⟩=false:=ak f;have o:w.heap.size+1<h.heap.size:=aj f;have G:=hide (show Below w w h by (repeat' exact bel));clear f;go_wp2;have J:=G.out;exact bodyPost_ret (v:=.tuple #[.agg #[.int .i64 0,.int .i64 0],.int .i64 1]) (by simp (maxDischargeDepth:=9) [results,Tryz.results86,go_sem,R,r1,H,I,o]) rfl ⟨rfl,by (repeat' exact bel)⟩
theorem Ay (c:ar) (w:World) (hn:c.name.size≤1000) (hk:c.okB=true) :
  Calls Tryz.prog 86 #[av c] w fun e w'=>e=.returned (.tuple #[.agg #[ax c c.first,bv c c.last],.int .i64 0])∧Below w w w':=by
 obtain ⟨hA,hB,_,_,_⟩:=dR hk;have HA:=hide hA;have G:=hide (fo hB);clear hk hA hB;simp only [av];go_enter Tryz.func86,Tryz.ntmps86;go_wp2_with fail;refine (dN c c.first _ hn).mono ?_;rintro e E ⟨rfl,f⟩;rw [HA.out];have r0:E.cell? ⟨w+1,0,none⟩=some (.int .i64 0):=am f;have r1:E.cell? ⟨w+1,1,none⟩=some (.int .i64 0):=am f;have V:E.frozen? ⟨w+1,0,none⟩=false:=ak f;have W:E.frozen? ⟨w+1,1,none⟩=false:=ak f;have o:w.heap.size+1<E.heap.size:=aj f;have ad:w.heap.size<E.heap.size:=om;have H:=hide (show Below w w E by (repeat' exact bel));have J:=hide (aa f ae (az (au w c) ac _));obtain ⟨q0,q1,q2,q3,q4,q5,q6,q7,q8,q9,R,S,T,U⟩:=J.out;clear f;go_wp2_with fail;refine (oG c c.last _ hn).mono ?_;rintro e F ⟨rfl,h⟩;rw [G.out];clear q0 q1 q2 q3 q4 q5 q6 q7 q8 q9 R S T U;have s0:F.cell? ⟨w+1,0,none⟩=some (.int .i64 0):=by rw [h.cell (p:=⟨w+1,0,none⟩) o];exact r0
 have s1:F.cell? ⟨w+1,1,none⟩=some (.int .i64 0):=by rw [h.cell (p:=⟨w+1,1,none⟩) o];exact r1
 have k0:F.frozen? ⟨w+1,0,none⟩=false:=by rw [h.frozen (p:=⟨w+1,0,none⟩) o];exact V
 have k1:F.frozen? ⟨w+1,1,none⟩=false:=by rw [h.frozen (p:=⟨w+1,1,none⟩) o];exact W
 have O:w.heap.size+1<F.heap.size:=Nat.lt_of_lt_of_le o h.size;have I:=hide (H.out.trans (h.mono om):Below w w F);clear h r0 r1 V W;go_wp2;have ab:=I.out;exact bodyPost_ret (v:=.tuple #[.agg #[ax c c.first,bv c c.last],.int .i64 0]) (by simp (maxDischargeDepth:=9) [results,Tryz.results86,go_sem,s0,s1,k0,k1,O]) rfl ⟨rfl,by (repeat' exact bel)⟩
noncomputable def bQ (c:ar) (day:Int):Int:=if c.okB=false then 1 else if cG c day≠0 then cG c day else if ax c c.first≤day∧day≤bv c c.last then 0 else 11
noncomputable def aN (c:ar) (day:Int):Int:=if bQ c day=0 then cC c day else 0
theorem xC {c:ar} {day:Int} (h:cG c day≠0):cC c day=0:=by
 cases E:c.okB
 ·exact (jZ E).1
 ·cases o:cH day
  ·exact (ic o).1
  ·by_cases f:∃ y,eO c day y
   ·obtain ⟨y,f⟩:=f
    exact absurd (eX o f).2.2 h
   ·exact (fw f).1
theorem mU {c:ar} {day:Int} (h:bQ c day=0):c.okB=true∧cH day=true∧eO c day (aN c day)∧c.first≤aN c day∧aN c day≤c.last:=by
 have H:aN c day=cC c day:=by rw [aN,if_pos h]
 unfold bQ at h
 split at h
 ·omega
 ·rename_i hk
  split at h
  ·rename_i hf;exact absurd h hf
  ·rename_i hf
   split at h
   ·rename_i hb
    have G:cG c day=0:=om;obtain ⟨F,I,f⟩:=DY G;have E:c.okB=true:=by simpa using hk
    obtain ⟨S,T,J,O,R⟩:=dR E;rw [H];refine ⟨E,I,f,?_,?_⟩
    ·rcases Int.lt_or_le (cC c day) c.first with o | o
     ·have:=dl c F (by have:=(bo f.1).2.1;omega) o om
      have:=f.2.2;omega
     ·exact o
    ·rcases Int.lt_or_le c.last (cC c day) with o | o
     ·have:=dl c F om o (bo f.1).2.2
      have:=f.2.1;omega
     ·exact o
   ·omega
theorem xZ (c:ar) (day:Int) (w:World) (I:c.name.size≤1000) (o:c.okB=false) :
  Calls Tryz.prog 52 #[av c,day] w fun e O=>e=.returned (.tuple #[aN c day,bQ c day])∧Below w w O:=by
 have E:=hide (show bQ c day=1 by simp [bQ,o]);have G:=hide (show aN c day=0 by rw [aN,if_neg (by rw [E.out];omega)]);have H:=hide o;clear o;simp only [av];go_enter Tryz.func52,Tryz.ntmps52;go_wp2_with fail;refine (xK c _ I H.out).mono ?_;rintro e F ⟨rfl,f⟩;have J:w.heap.size<F.heap.size:=aj f;have h:=hide (show Below w w F by refine Below.trans ?_ (f.mono ac);(repeat' exact bel));clear f;go_wp2;have:=h.out;go_ret2;exact ⟨aw G.out.symm E.out.symm,by (repeat' exact bel)⟩
theorem BA (c:ar) (day:Int) (w:World) (hn:c.name.size≤1000) (hk:c.okB=true) :
  Calls Tryz.prog 52 #[av c,day] w fun e w'=>e=.returned (.tuple #[aN c day,bQ c day])∧Below w w w':=by
 have J:=hide hk;have HZ:=hide (fun h=>xC (c:=c) (day:=day) h);simp only [av];go_enter Tryz.func52,Tryz.ntmps52;go_wp2_with fail;refine (Ay c _ hn J.out).mono ?_;rintro e O ⟨rfl,F⟩;have ay:w.heap.size<O.heap.size:=aj F;have R:=hide (show Below w w O by refine Below.trans ?_ (F.mono ac);(repeat' exact bel));have S:=hide (aa F ac (au w c));obtain ⟨q0,q1,q2,q3,q4,q5,q6,q7,q8,q9,T,U,V,W⟩:=S.out;clear F;go_wp2_with fail;refine (Hh c day _ hn).mono ?_;rintro e w2 ⟨rfl,G⟩;have s0:w2.cell? ⟨O,0,none⟩=some (.int .i64 (ax c c.first)):=am G;have s1:w2.cell? ⟨O,1,none⟩=some (.int .i64 (bv c c.last)):=am G;have E:=hide (show Below w w w2 by have hp:=R.out;refine Below.trans ?_ (G.mono ae);(repeat' exact bel));clear q0 q1 q2 q3 q4 q5 q6 q7 q8 q9 T U V W;clear G;by_cases f:cG c day=0
 ·have H3:=hide f
  rw [f];by_cases H:ax c c.first≤day∧day≤bv c c.last
  ·have o:=hide (show bQ c day=0 by unfold bQ;rw [if_neg (by simp [J.out]),if_neg (by rw [f];simp),if_pos H])
   have I:=hide (show aN c day=cC c day by rw [aN,if_pos o.out]);obtain ⟨ab,ad⟩:=H;clear f;go_wp2
   all_goals first
    | (exfalso;omega)
    | (go_ret2;exact ⟨aw I.out.symm o.out.symm,E.out⟩)
  ·have o:=hide (show bQ c day=11 by unfold bQ;rw [if_neg (by simp [J.out]),if_neg (by rw [f];simp),if_neg H])
   have I:=hide (show aN c day=0 by rw [aN,if_neg (by rw [o.out];omega)]);clear f;rcases (show day<ax c c.first∨(ax c c.first≤day∧bv c c.last<day) by omega) with hd | ⟨ah,al⟩
   ·go_wp2
    all_goals first
     | (exfalso;omega)
     | (go_ret2;exact ⟨aw I.out.symm o.out.symm,E.out⟩)
   ·go_wp2
    all_goals first
     | (exfalso;omega)
     | (go_ret2;exact ⟨aw I.out.symm o.out.symm,E.out⟩)
 ·have o:=hide (show bQ c day=cG c day by unfold bQ;rw [if_neg (by simp [J.out]),if_pos f])
  have I:=hide (show aN c day=cC c day by rw [aN,if_neg (by rw [o.out];exact f),HZ.out f]);have aq:(cG c day==0)=false:=by simpa using f
  clear f;go_wp2
  all_goals first
   | (exfalso;omega)
   | (go_ret2;exact ⟨aw I.out.symm o.out.symm,E.out⟩)
theorem pI (c:ar) (day:Int) (w:World) (h:c.name.size≤1000) :
  Calls Tryz.prog 52 #[av c,day] w fun e o=>e=.returned (.tuple #[aN c day,bQ c day])∧Below w w o:=by
 cases f:c.okB
 ·exact xZ c day w h f
 ·exact BA c day w h f
def CR (c:ar) (y d:Int):Nat:=CS ((oY c y).map Prod.snd) d
theorem zP (c:ar) (y:Int) (f:aO c y 1601=0) (i:Nat) (hi:i<bW c y):((oY c y).map Prod.snd)[i]?.getD 0=bD c y (i+1)-1:=by
 rw [t9 _ i (by rw [fQ];exact hi),(en c y f i hi).1];rfl
theorem Kg (c:ar) (y d:Int) (f:aO c y 1601=0) (i:Nat) (hi:i<bW c y) (h:bD c y i≤d) (o:d<bD c y (i+1)):CR c y d=i:=by
 refine tb _ _ i (by rw [List.length_map,fQ];omega) (fun j E=>?_) (fun _=>?_)
 ·rw [zP c y f j om]
  have:=cn c y f (show j+1≤i by omega) om;omega
 ·rw [zP c y f i hi]
  omega
theorem Gp (c:ar) (y d:Int) (E:aO c y 1601=0) (G:ax c y≤d) (H:d≤bv c y):∃ i,i<bW c y∧bD c y i≤d∧d<bD c y (i+1):=by
 have o:∀ m,m≤bW c y→d<bD c y m→∃ i,i<bW c y∧bD c y i≤d∧d<bD c y (i+1):=by
  intro m
  induction m with
  | zero=>intro _ h;rw [kc] at h;omega
  | succ m F =>
   intro I h;rcases Int.lt_or_le d (bD c y m) with f | f
   ·exact F om f
   ·exact ⟨m,by omega,f,h⟩
 exact o _ (Nat.le_refl _) (by rw [eV c y E];omega)
theorem KD (c:ar) (y d:Int) (f:aO c y 1601=0) (E:ax c y≤d) (F:d≤bv c y):CR c y d<bW c y∧bD c y (CR c y d)≤d∧d<bD c y (CR c y d+1):=by
 obtain ⟨i,hi,h,o⟩:=Gp c y d f E F;rw [Kg c y d f i hi h o];exact ⟨hi,h,o⟩
noncomputable def kU (c:ar) (d lv:Int):Int:=if c.okB=true∧1≤lv∧lv≤5 then bQ c d else 1
noncomputable def mV (c:ar) (d lv:Int):Un:=if kU c d lv=0 then ⟨lv,aN c d,(gJ c (aN c d) lv (CR c (aN c d) d):Int)+1⟩ else ⟨0,0,0⟩
theorem fh {c:ar} {d lv:Int} (h:kU c d lv=0):c.okB=true∧1≤lv∧lv≤5∧bQ c d=0∧cH d=true∧eO c d (aN c d)∧aI c lv (aN c d)=0:=by
 unfold kU at h
 split at h
 ·rename_i hk
  obtain ⟨G,o,f,E,F⟩:=mU h;exact ⟨hk.1,hk.2.1,hk.2.2,h,o,f,jI (bo f.1).1 hk.2.1 hk.2.2 E F⟩
 ·omega
theorem qc {c:ar} {d lv:Int} (h:kU c d lv=0):∃ i:Nat,mV c d lv=⟨lv,aN c d,(i:Int)+1⟩∧i<aR c (aN c d) lv∧bD c (aN c d) (aW c (aN c d) lv i)≤d∧d<bD c (aN c d) (aW c (aN c d) lv (i+1)):=by
 obtain ⟨R,E,F,S,J,f,O⟩:=fh h;obtain ⟨I,T,U⟩:=KD c (aN c d) d f.1 f.2.1 f.2.2;obtain ⟨o,G,H⟩:=Iu c (aN c d) f.1 lv E F _ I;refine ⟨_,by rw [mV,if_pos h],o,?_,?_⟩
 ·have:=cn c _ f.1 G om;omega
 ·have:=cn c _ f.1 (show CR c (aN c d) d+1≤aW c (aN c d) lv (gJ c (aN c d) lv (CR c (aN c d) d)+1) from H) (cT c _ f.1 lv E F _ o);omega
theorem dE (lv:Int) (w:World):Calls Tryz.prog 51 #[lv] w fun e f=>e=.returned (.bool (decide (1≤lv∧lv≤5)))∧w=f:=by
 go_enter Tryz.func51,Tryz.ntmps51;go_wp2
 all_goals (go_ret;refine ⟨aY ?_,rfl⟩;simp;try omega)
theorem Cg (c:ar) (y d:Int) (w:World) (cap E W:Nat) (h:aO c y 1601=0) (J:cP w E (oY c y)) (hd:-100000000≤d∧d≤100000000) :
  Calls Tryz.prog 55 #[cK y (bW c y) cap E (aU c y) W,d] w fun e w'=>e=.returned (.int .i64 ((CR c y d:Int)+1))∧Below w w w':=by
 have ad:=di c y h;have ah:=ch c y h;have G:CS ((oY c y).map Prod.snd) d≤100:=by
  have:=Er ((oY c y).map Prod.snd) d;rw [List.length_map,fQ] at this;omega
 have o:∀ i,i<(oY c y).length→-100000000≤((oY c y)[i]?.getD (0,0)).2∧((oY c y)[i]?.getD (0,0)).2≤100000000:=by
  intro i hi;rw [fQ] at hi;rw [(en c y h i hi).1];have U:=cn c y h (Nat.zero_le (i+1)) hi;have V:=cn c y h (show i+1≤bW c y from hi) (Nat.le_refl _);rw [kc] at U;rw [eV c y h] at V;simp only [Option.getD_some];omega
 have f:∀ i j,i≤j→j<(oY c y).length→((oY c y)[i]?.getD (0,0)).2≤((oY c y)[j]?.getD (0,0)).2:=by
  intro i j ab O;rw [fQ] at O;rw [(en c y h i om).1,(en c y h j O).1];have:=cn c y h (show i+1≤j+1 by omega) om;simp only [Option.getD_some];omega
 have H:=hide (fQ c y);have I:=hide (show CS ((oY c y).map Prod.snd) d=CR c y d from rfl);have S:=hide J;have hl:=H.out;clear J;simp only [cK];go_enter Tryz.func55,Tryz.ntmps55;go_wp2_with fail;rw [← H.out];refine (tY E cap (oY c y) d _ om (S.out.alloc _) hd o f).mono ?_;rintro e w1 ⟨b,rfl,F⟩;rw [I.out];have T:=hide (show Below w w w1 by (repeat' exact bel));clear F o f;have R:CR c y d≤100:=by rw [← I.out];exact G
 go_wp2;go_ret;exact ⟨rfl,T.out⟩
theorem Fo (c:ar) (d lv:Int) (w:World) (O:c.name.size≤1000) (F:c.okB=false) :
  Calls Tryz.prog 13 #[av c,d,lv] w fun e S=>e=.returned (.tuple #[.agg #[.int .i64 0,.int .i64 0,.int .i64 0],.int .i64 1])∧Below w w S:=by
 have G:=hide (show co c=1 by simp [co,F]);clear F;simp only [av];go_enter Tryz.func13,Tryz.ntmps13;go_wp2_with fail;refine (bs c _ O).mono ?_;rintro e h ⟨rfl,f⟩;rw [G.out];have R:h.cell? ⟨w+1,0,none⟩=some (.int .i64 0):=am f;have H:h.frozen? ⟨w+1,0,none⟩=false:=ak f;have r1:h.cell? ⟨w+1,1,none⟩=some (.int .i64 0):=am f;have I:h.frozen? ⟨w+1,1,none⟩=false:=ak f;have r2:h.cell? ⟨w+1,2,none⟩=some (.int .i64 0):=am f;have J:h.frozen? ⟨w+1,2,none⟩=false:=ak f;have o:w.heap.size+1<h.heap.size:=aj f;have E:=(show Below w w h by (repeat' exact bel));clear f;go_wp2;exact bodyPost_ret (v:=.tuple #[.agg #[.int .i64 0,.int .i64 0,.int .i64 0],.int .i64 1]) (by simp (maxDischargeDepth:=9) [results,Tryz.results13,go_sem,R,r1,r2,H,I,J,o]) rfl ⟨rfl,by (repeat' exact bel)⟩
theorem G9 (c:ar) (d lv:Int) (w:World) (T:c.name.size≤1000) (G:c.okB=true) (H:¬ (1≤lv∧lv≤5)) :
  Calls Tryz.prog 13 #[av c,d,lv] w fun e I=>e=.returned (.tuple #[.agg #[.int .i64 0,.int .i64 0,.int .i64 0],.int .i64 1])∧Below w w I:=by
 have J:=hide (show co c=0 by simp [co,G]);have o:decide (1≤lv∧lv≤5)=false:=by simpa using H
 clear G H;simp only [av];go_enter Tryz.func13,Tryz.ntmps13;go_wp2_with fail;refine (bs c _ T).mono ?_;rintro e h ⟨rfl,f⟩;rw [J.out];have U:h.cell? ⟨w+1,0,none⟩=some (.int .i64 0):=am f;have O:h.frozen? ⟨w+1,0,none⟩=false:=ak f;have r1:h.cell? ⟨w+1,1,none⟩=some (.int .i64 0):=am f;have R:h.frozen? ⟨w+1,1,none⟩=false:=ak f;have r2:h.cell? ⟨w+1,2,none⟩=some (.int .i64 0):=am f;have S:h.frozen? ⟨w+1,2,none⟩=false:=ak f;have E:w.heap.size+1<h.heap.size:=aj f;have F:=(show Below w w h by (repeat' exact bel));clear f;go_wp2_with (go_at_call 51;refine (dE _ _).mono ?_;rintro e I ⟨rfl,rfl⟩;rw [o]);exact bodyPost_ret (v:=.tuple #[.agg #[.int .i64 0,.int .i64 0,.int .i64 0],.int .i64 1]) (by simp (maxDischargeDepth:=9) [results,Tryz.results13,go_sem,U,r1,r2,O,R,S,E]) rfl ⟨rfl,by (repeat' exact bel)⟩
theorem Fv (c:ar) (d lv:Int) (w:World) (hn:c.name.size≤1000) (hk:c.okB=true) (hl:1≤lv∧lv≤5) (hs:¬ bQ c d=0) :
  Calls Tryz.prog 13 #[av c,d,lv] w fun e w'=>e=.returned (.tuple #[.agg #[.int .i64 0,.int .i64 0,.int .i64 0],bQ c d])∧Below w w w':=by
 have HO:=hide (show co c=0 by simp [co,hk]);have I:decide (1≤lv∧lv≤5)=true:=by simpa using hl
 have ad:(bQ c d != 0)=true:=by simpa using hs
 clear hk hl hs;simp only [av];go_enter Tryz.func13,Tryz.ntmps13;go_wp2_with fail;refine (bs c _ hn).mono ?_;rintro e E ⟨rfl,f⟩;rw [HO.out];have r0:E.cell? ⟨w+1,0,none⟩=some (.int .i64 0):=am f;have V:E.frozen? ⟨w+1,0,none⟩=false:=ak f;have r1:E.cell? ⟨w+1,1,none⟩=some (.int .i64 0):=am f;have W:E.frozen? ⟨w+1,1,none⟩=false:=ak f;have r2:E.cell? ⟨w+1,2,none⟩=some (.int .i64 0):=am f;have f2:E.frozen? ⟨w+1,2,none⟩=false:=ak f;have o:w.heap.size+1<E.heap.size:=aj f;have O:w.heap.size<E.heap.size:=om;have G:=hide (show Below w w E by (repeat' exact bel));have H:=hide (show aG E w c from aa f ae (az (au w c) ac _));clear f;obtain ⟨q0,q1,q2,q3,q4,q5,q6,q7,q8,q9,R,S,T,U⟩:=H.out;go_wp2_with (go_at_call 51;refine (dE _ _).mono ?_;rintro e w' ⟨rfl,rfl⟩;rw [I]);refine (pI c d _ hn).mono ?_;rintro e F ⟨rfl,h⟩;clear q0 q1 q2 q3 q4 q5 q6 q7 q8 q9 R S T U;have s0:F.cell? ⟨w+1,0,none⟩=some (.int .i64 0):=by rw [h.cell (p:=⟨w+1,0,none⟩) o];exact r0
 have k0:F.frozen? ⟨w+1,0,none⟩=false:=by rw [h.frozen (p:=⟨w+1,0,none⟩) o];exact V
 have s1:F.cell? ⟨w+1,1,none⟩=some (.int .i64 0):=by rw [h.cell (p:=⟨w+1,1,none⟩) o];exact r1
 have k1:F.frozen? ⟨w+1,1,none⟩=false:=by rw [h.frozen (p:=⟨w+1,1,none⟩) o];exact W
 have s2:F.cell? ⟨w+1,2,none⟩=some (.int .i64 0):=by rw [h.cell (p:=⟨w+1,2,none⟩) o];exact r2
 have k2:F.frozen? ⟨w+1,2,none⟩=false:=by rw [h.frozen (p:=⟨w+1,2,none⟩) o];exact f2
 clear r0 r1 r2 V W f2;have J:w.heap.size+1<F.heap.size:=Nat.lt_of_lt_of_le o h.size;have ab:=G.out.trans (h.mono (Nat.le_of_lt O));clear h;go_wp2;exact bodyPost_ret (v:=.tuple #[.agg #[.int .i64 0,.int .i64 0,.int .i64 0],bQ c d]) (by simp (maxDischargeDepth:=9) [results,Tryz.results13,go_sem,s0,s1,s2,k0,k1,k2,J]) rfl ⟨rfl,by (repeat' exact bel)⟩
def pE (c:ar) (y:Int) (F f cap h B:Nat) (w:World):Prop:=ap w F #[y,.slice (some ⟨f,0,none⟩) (bW c y) cap,.slice (some ⟨h,0,none⟩) (aU c y) (aU c y)] 96∧cq w f h c y∧ap w B #[.int .i64 0,.int .i64 0,.int .i64 0] 26
theorem pE.call {c:ar} {y:Int} {F o cap E B:Nat} {w G:World} (h:pE c y F o cap E B w) (f:Below w w G):pE c y F o cap E B G:=
 ⟨h.1.call f,h.2.1.call f,h.2.2.call f⟩
theorem pE.drew {c:ar} {y:Int} {F f cap o B:Nat} {w:World} (h:pE c y F f cap o B w):pE c y F f cap o B w.drew:=h
theorem pE.load {c:ar} {y:Int} {F o cap E B:Nat} {f:World} (h:pE c y F o cap E B f):f.cell? ⟨F,0,none⟩=some (.int .i64 y)∧f.cell? ⟨F,1,none⟩=some (.slice (some ⟨o,0,none⟩) (bW c y) cap)∧f.cell? ⟨F,2,none⟩=some (.slice (some ⟨E,0,none⟩) (aU c y) (aU c y)):=
 ⟨h.1.cell 0,h.1.cell 1,h.1.cell 2⟩
theorem pE.res {c:ar} {y:Int} {F o cap E B:Nat} {f:World} (h:pE c y F o cap E B f) :
  (f.cell? ⟨B,0,none⟩=some (.int .i64 0)∧f.cell? ⟨B,1,none⟩=some (.int .i64 0)∧f.cell? ⟨B,2,none⟩=some (.int .i64 0)) ∧
  (f.frozen? ⟨B,0,none⟩=false∧f.frozen? ⟨B,1,none⟩=false∧f.frozen? ⟨B,2,none⟩=false):=
 ⟨⟨h.2.2.cell 0,h.2.2.cell 1,h.2.2.cell 2⟩,⟨h.2.2.frozen 0,h.2.2.frozen 1,h.2.2.frozen 2⟩⟩
theorem Fa {f:Array Value} {W:World} {B:Nat} {o E F e:Int} (J:f[6]?=some (.pointer (some ⟨B,0,none⟩))) (O:f[7]?=some (.int .i64 e))
  (h:ap W B #[o,E,F] 26) :
  (results Tryz.f13 f).run Tryz.prog W=.ok (.tuple #[.agg #[o,E,F],e]) W:=by
 have G:=h.cell 0;have H:=h.cell 1;have I:=h.cell 2;simp at G H I;simp [results,Tryz.results13,go_sem,J,O,G,H,I]
theorem EM (c:ar) (d lv:Int) (w:World) (hn:c.name.size≤1000) (hE:kU c d lv=0) :
  Calls Tryz.prog 13 #[av c,d,lv] w fun e w'=>e=.returned (.tuple #[.agg #[lv,aN c d,.int .i64 ((gJ c (aN c d) lv (CR c (aN c d) d):Int)+1)],.int .i64 0])∧Below w w w':=by
 obtain ⟨hk,h1,h5,hs,hd,hy,hf⟩:=fh hE;have bX:0≤d∧d<3068037:=by simpa [cH] using hd
 have HO:=hide (show co c=0 by simp [co,hk]);have bd:decide (1≤lv∧lv≤5)=true:=ae;obtain ⟨y,O⟩:∃ y,y=aN c d:=⟨_,rfl⟩;rw [← O] at hy hf ⊢;have ba:=hide O;have HS:=hide hs;have HA:=hide hy.1;have HF:=hide hf;clear hE hk hs hd hy hf O;simp only [av];go_enter Tryz.func13,Tryz.ntmps13;go_wp2_with fail;refine (bs c _ hn).mono ?_;rintro e o ⟨rfl,f⟩;rw [HO.out];have r0:o.cell? ⟨w+1,0,none⟩=some (.int .i64 0):=am f;have f0:o.frozen? ⟨w+1,0,none⟩=false:=ak f;have r1:o.cell? ⟨w+1,1,none⟩=some (.int .i64 0):=am f;have f1:o.frozen? ⟨w+1,1,none⟩=false:=ak f;have r2:o.cell? ⟨w+1,2,none⟩=some (.int .i64 0):=am f;have f2:o.frozen? ⟨w+1,2,none⟩=false:=ak f;have a1:w.heap.size+1<o.heap.size:=aj f;have a0:w.heap.size<o.heap.size:=om;have a4:=hide (show Below w w o by (repeat' exact bel));have ay:=hide (show aG o w c from aa f ae (az (au w c) ac _));have G1:ap o (w+1) #[.int .i64 0,.int .i64 0,.int .i64 0] 26:=ap.below (by simpa using ap.new (w.alloc (bG c)) #[.int .i64 0,.int .i64 0,.int .i64 0] 26) f ac;clear f;obtain ⟨q0,q1,q2,q3,q4,q5,q6,q7,q8,q9,R,S,T,U⟩:=ay.out;go_wp2_with (go_at_call 51;refine (dE _ _).mono ?_;rintro e w' ⟨rfl,rfl⟩;rw [bd]);refine (pI c d _ hn).mono ?_;rintro e w2 ⟨rfl,E⟩;clear q0 q1 q2 q3 q4 q5 q6 q7 q8 q9 R S T U;rw [HS.out,← ba.out];have ab:ap o (w+1) #[.int .i64 0,.int .i64 0,.int .i64 0] 26:=G1;have GB:=hide (ab.call E);have a7:=hide (show aG w2 w c from aa E a0 ay.out);have a2:w.heap.size+1<w2.heap.size:=Nat.lt_of_lt_of_le a1 E.size;have a3:w.heap.size<w2.heap.size:=om;have a5:=hide (a4.out.trans (E.mono (Nat.le_of_lt a0)));clear E r0 r1 r2 f0 f1 f2;obtain ⟨q0,q1,q2,q3,q4,q5,q6,q7,q8,q9,R,S,T,U⟩:=a7.out;go_wp2_with fail;refine (kW c lv y _ hn HF.out).mono ?_;rintro e V ⟨g1,cap,g2,bb,bc,rfl,bw,bx,aF,G⟩;clear q0 q1 q2 q3 q4 q5 q6 q7 q8 q9 R S T U;have ad:=hide (GB.out.call G);have aq:=hide aF;have bl:w.heap.size+1<V.heap.size:=Nat.lt_of_lt_of_le a2 G.size;have ah:=hide (a5.out.trans (G.mono (Nat.le_of_lt a3)));clear G aF bb bc;have bh:w.heap.size+1≠V.heap.size:=om;have h:w.heap.size≤w.heap.size+1:=om;clear ab G1;generalize w.heap.size+1=B at *;obtain ⟨F,hF⟩:∃ F,F=V.heap.size:=⟨_,rfl⟩;have HD:=hide (show pE c y F g1 cap g2 B (V.alloc (.cells #[.int .i64 y,.slice (some ⟨g1,0,none⟩) (bW c y) cap,.slice (some ⟨g2,0,none⟩) (aU c y) (aU c y)] 96)) from ⟨by rw [hF];exact ap.new V _ _,aq.out.alloc _,ad.out.alloc _⟩);have aA:=hide (show Below w w (V.alloc (.cells #[.int .i64 y,.slice (some ⟨g1,0,none⟩) (bW c y) cap,.slice (some ⟨g2,0,none⟩) (aU c y) (aU c y)] 96)) from ah.out.alloc om _);go_wp2_with fail;rw [← hF];generalize V.alloc (.cells #[.int .i64 y,.slice (some ⟨g1,0,none⟩) (bW c y) cap,.slice (some ⟨g2,0,none⟩) (aU c y) (aU c y)] 96)=W at *;obtain ⟨k0,k1,k2⟩:=HD.out.load;have bt:w.heap.size≤W.heap.size:=aA.out.size;have a6:=hide h;clear aq hF ah ad h bh bl a2 a1
 go_region_with (first
  | (go_at_call 55;refine (Cg c y d _ cap g1 g2 HA.out ?_ om).mono ?_;exact HD.out.2.1.1;rintro e w4 ⟨rfl,I⟩;have H:=hide (HD.out.drew.call (by exact I));have aB:=hide (aA.out.drew.trans (I.mono (by exact bt)):Below w w w4);obtain ⟨m0,m1,m2⟩:=H.out.load;have bp:w.heap.size≤w4.heap.size:=aB.out.size;clear I)
  | (go_at_call 54;refine (nM c y lv _ cap g1 g2 h1 h5 HA.out ?_ _).mono ?_;exact H.out.2.1.2;rintro e w5 ⟨rfl,J⟩;have al:=hide (H.out.call (by exact J));have a8:=hide (aB.out.trans (J.mono (by exact bp)):Below w w w5);obtain ⟨⟨p0,p1,p2⟩,⟨p6,p7,p8⟩⟩:=al.out.res;clear J))
 all_goals
  have h:=a6.out;go_simp;go_wp2;exact bodyPost_ret (v:=.tuple #[.agg #[lv,.int .i64 y,.int .i64 ((gJ c y lv (CR c y d):Int)+1)],.int .i64 0]) (by exact Fa rfl rfl (al.out.2.2.set123 _ _ _)) rfl ⟨rfl,((a8.out.setCell h _).setCell h _).setCell h _⟩
theorem kY (c:ar) (d lv:Int) (w:World) (G:c.name.size≤1000) :
  Calls Tryz.prog 13 #[av c,d,lv] w fun e J=>e=.returned (.tuple #[aC (mV c d lv),kU c d lv])∧Below w w J:=by
 by_cases o:kU c d lv=0
 ·refine (EM c d lv w G o).mono ?_
  rintro e O ⟨rfl,I⟩;exact ⟨by rw [mV,if_pos o,o],I⟩
 ·have H:mV c d lv=⟨0,0,0⟩:=by rw [mV,if_neg o]
  rw [H];cases E:c.okB
  ·have f:kU c d lv=1:=by unfold kU;rw [if_neg (by rw [E];simp)]
   rw [f];exact Fo c d lv w G E
  ·by_cases F:1≤lv∧lv≤5
   ·have f:kU c d lv=bQ c d:=by unfold kU;rw [if_pos ⟨E,F⟩]
    rw [f];exact Fv c d lv w G E F (by rw [← f];exact o)
   ·have f:kU c d lv=1:=by unfold kU;rw [if_neg (fun h=>F h.2)]
    rw [f];exact G9 c d lv w G E F
abbrev L9:ByteArray:=⟨#[35,35,35,35,45,35,35,45,35,35]⟩
def nL:Nat→List Int
 | 1=>[2] | 2=>[20] | 3=>[202] | 4=>[2024] | 5=>[2024] | 6=>[2024,0] | 7=>[2024,2] | 8=>[2024,2] | 9=>[2024,2,0] | 10=>[2024,2,3] | _=>[]
def JN (w wr:World) (k:Nat) (v:Value):Prop:=
 wr.ownsRow (w.heap.size+1) 3 1 v (nL k).length ((nL k).map (Value.int .i64))∧wr.heap[w.heap.size]?=some (.stringIter L9 k)∧Below w w wr
theorem JN.stored {w W:World} {k n g cap:Nat} {f:List Int} (o:W.ownsRow (w.heap.size+1) 3 1 (.slice (some ⟨g,0,none⟩) n cap) n (f.map (Value.int .i64))) (E:W.heap[w.heap.size]?=some (.stringIter L9 k)) (F:Below w w W)
  (j:Nat) (x:Int) (H:nL k=f.set j x) (G:(nL k).length=n) (I:w.heap.size<g):JN w (W.setCell ⟨g,j,none⟩ (.int .i64 x)) k (.slice (some ⟨g,0,none⟩) n cap):=by
 have h:=(o.stored j (.int .i64 x)).1;have e:(f.map (Value.int .i64)).set j (Value.int .i64 x)=(nL k).map (Value.int .i64):=by rw [H,List.map_set]
 rw [e] at h;refine ⟨by rw [G];exact h,?_,F.setCell ae _⟩;rw [Below.heap_setCell W ⟨g,j,none⟩ _ w.heap.size ae];exact E
theorem uT {w:World} {f n:Nat} {v:Value} {H:List Value} {e:TypeId} {o:Nat} (h:w.ownsRow f e o v n H) (G:0<n):∃ g cap,v=.slice (some ⟨g,0,none⟩) n cap∧f≤g:=by
 obtain ⟨g,cap,E,_,_,F⟩:=eg h G;exact ⟨g,cap,E,F⟩
def qx (u:Un):Un:=⟨u.lv,u.yr,u.ix+1⟩
def wF (u:Un):Un:=⟨u.lv,u.yr+1,1⟩
def CO (c:ar) (u:Un):Int:=if aE c u=0 then (if aE c (qx u)=0 then 0 else aE c (wF u)) else aE c u
def wW (c:ar) (u:Un):Un:=if aE c u=0 then (if aE c (qx u)=0 then qx u else if aE c (wF u)=0 then wF u else ⟨0,0,0⟩) else ⟨0,0,0⟩
def LL (c:ar) (u:Un):Int:=if aE c u=0 then (if 1<u.ix then 0 else aI c u.lv (u.yr-1)) else aE c u
def LV (c:ar) (u:Un):Un:=if aE c u=0 then (if 1<u.ix then ⟨u.lv,u.yr,u.ix-1⟩ else if aI c u.lv (u.yr-1)=0 then ⟨u.lv,u.yr-1,(aR c (u.yr-1) u.lv:Int)⟩ else ⟨0,0,0⟩) else ⟨0,0,0⟩
theorem ED {c:ar} {lv y:Int} (E:c.okB=true) (f:1≤lv) (o:lv≤5) (h:y<c.first∨c.last<y):aI c lv y=11:=by
 unfold aI;rw [if_pos E,if_pos ⟨f,o⟩,if_neg om]
theorem yj {c:ar} {u:Un} (h:aE c u=0) :
  (CO c u=0∧(cd c u).b<bv c c.last∧aE c (wW c u)=0∧(cd c (wW c u)).a=(cd c u).b+1∧LL c (wW c u)=0∧LV c (wW c u)=u)∨(CO c u=11∧wW c u=⟨0,0,0⟩∧(cd c u).b=bv c c.last):=by
 obtain ⟨O,o,E,J,hx,hi⟩:=bN h;obtain ⟨H,hk,_,_,ad,V,_⟩:=a9 O;obtain ⟨y1,y2,y3,y4,y5⟩:=dR hk;obtain ⟨lv,f,ix⟩:=u;simp only at O o E J hi ad V;obtain ⟨i,ab⟩:∃ i,i=uI ⟨lv,f,ix⟩:=⟨_,rfl⟩;rw [← ab] at hx hi;obtain rfl:ix=(i:Int)+1:=hx;have hS:=wM O i hi;have hb:(cd c ⟨lv,f,(i:Int)+1⟩).b=bD c f (aW c f lv (i+1))-1:=by rw [hS]
 rw [hb];by_cases G:i+1<aR c f lv
 ·left
  obtain ⟨F,_,_⟩:=qB O (i+1) G;have I:qx ⟨lv,f,(i:Int)+1⟩=⟨lv,f,((i+1:Nat):Int)+1⟩:=by simp [qx]
  have eU:wW c ⟨lv,f,(i:Int)+1⟩=⟨lv,f,((i+1:Nat):Int)+1⟩:=by rw [wW,if_pos h,I,if_pos F]
  have eE:CO c ⟨lv,f,(i:Int)+1⟩=0:=by rw [CO,if_pos h,I,if_pos F]
  rw [eU,eE];refine ⟨rfl,?_,F,?_,?_,?_⟩
  ·have b1:=ft c f J (oL c f J lv o E G (Nat.le_refl _)) (cT c f J lv o E _ (Nat.le_refl _))
   have b2:=oL c f J lv o E G (Nat.le_refl _);rw [lm c f lv o E,eV c f J] at b1;have:=qd c H (show 1600≤f by omega) V om;rw [lm c f lv o E] at b2;omega
  ·rw [wM O (i+1) G]
   simp only;omega
  ·rw [LL,if_pos F,if_pos ae]
  ·rw [LV,if_pos F,if_pos ae]
   simp
 ·have hn:i+1=aR c f lv:=om
  have I:¬ aE c (qx ⟨lv,f,(i:Int)+1⟩)=0:=by
   intro h2;have:=(ie h2).2;simp [qx,uI] at this;omega
  have U:bD c f (aW c f lv (i+1))-1=bv c f:=by
   rw [hn,lm c f lv o E,eV c f J];omega
  rw [U];by_cases hy:f+1≤c.last
  ·left
   have R:aI c lv (f+1)=0:=jI H o E om hy;have T:aO c (f+1) 1601=0:=(a9 R).2.2.2.2.2.2;have ah:=dv c (f+1) T lv;obtain ⟨F,_,_⟩:=qB R 0 om;have S:aE c (wF ⟨lv,f,(i:Int)+1⟩)=0:=F;have eU:wW c ⟨lv,f,(i:Int)+1⟩=⟨lv,f+1,((0:Nat):Int)+1⟩:=by rw [wW,if_pos h,if_neg I,if_pos S];rfl
   have eE:CO c ⟨lv,f,(i:Int)+1⟩=0:=by rw [CO,if_pos h,if_neg I,S]
   rw [eU,eE];refine ⟨rfl,?_,F,?_,?_,?_⟩
   ·have:=ky c f H om 1 om
    have:=qd c H (show 1600≤f+1 by omega) hy om;simp at *;omega
   ·rw [wM R 0 om,zq,kc,eQ c f T]
   ·rw [LL,if_pos F,if_neg ac]
    simp only;rw [show f+1-1=f by omega];exact O
   ·rw [LV,if_pos F,if_neg ac]
    simp only;rw [show f+1-1=f by omega,if_pos O,← hn];simp
  ·right
   have W:aE c (wF ⟨lv,f,(i:Int)+1⟩)=11:=by
    have:=ED hk o E (y:=f+1) om;unfold aE wF;simp only;rw [if_neg om,this]
   refine ⟨by rw [CO,if_pos h,if_neg I,W],by rw [wW,if_pos h,if_neg I,if_neg om],?_⟩;rw [show f=c.last by omega]
theorem Jm {c:ar} {u:Un} (h:aE c u=0):0≤(cd c u).a∧(cd c u).a≤(cd c u).b∧(cd c u).b≤3068037:=by
 obtain ⟨J,G,H,o,O,hi⟩:=bN h;have f:=dz h;rw [kM h];have E:=cn c u.yr o (Nat.zero_le (aT c u)) om;have F:=cn c u.yr o f.2 (Nat.le_refl _);have I:=ft c u.yr o f.1 f.2;rw [kc] at E;rw [eV c u.yr o] at F;have:=ch c u.yr o;simp only;omega
end
end Go.Proofs.YtjhhmeoibfdcmaaGreat
