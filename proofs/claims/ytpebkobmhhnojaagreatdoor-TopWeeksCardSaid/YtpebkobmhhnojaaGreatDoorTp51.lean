/- The statement TopWeeks: for every input the law answers true, and its arguments read behind the call as they read before. Condition: the listed variables of the library hold what the library lays (the card ties them to the text). -/
import Derived.Lay
import Derived.SevenTiedAt
import Derived.Test.YtpebkobmhhnojaaGreatDoorCards
import Derived.Test.YtpebkobmhhnojaaGreatDoorTie
import Derived.Test.YtpebkobmhhnojaaGreatDoorTp13
import Derived.Test.YtpebkobmhhnojaaGreatDoorTp24
import Derived.Test.YtpebkobmhhnojaaGreatDoorTp50
set_option linter.unusedSimpArgs false
set_option linter.unusedVariables false
set_option maxRecDepth 100000
set_option maxHeartbeats 12800000
namespace Go.Proofs.YtpebkobmhhnojaaGreatDoor
section
open Go.RowKit Qd
theorem bQ.al {w:World} (h:bQ w) (o:Obj):bQ (w.alloc o):=h.call ((Below.refl _ _).alloc (Nat.le_refl _) _)
theorem C6 (c:aC) (y:Int) (w:World) (E:bQ w) (W:100<c.name.size) (V:c.name.size≤9223372036854775807) :
  Calls Tryz.prog 4 #[aI c,y] w fun e w'=>e=.returned (.bool true)∧Below w w w':=by
 have G:=hide E;clear E;simp only [aI];go_enter Tryz.func4,Tryz.ntmps4;go_wp2_with fail;refine (dH _ (G.out.al _)).mono ?_;rintro e F ⟨rfl,f⟩;have H:w.heap.size<F.heap.size:=am f;have h:Hid (Below w w F):=ww f;have o:=hide (az f af (be w c));obtain ⟨Y,q1,q2,q3,q4,q5,q6,q7,q8,q9,I,J,O,U⟩:=o.out;clear f;go_wp2
 all_goals first
  | (exfalso;omega)
  | (go_ret;exact ⟨rfl,h.out⟩)
theorem Ap (c:aC) (y:Int) (w:World) (G:bQ w) (hn:c.name.size≤100) (h:c.kind=6∨y<c.first∨c.last<y) :
  Calls Tryz.prog 4 #[aI c,y] w fun e w'=>e=.returned (.bool true)∧Below w w w':=by
 have I:=hide G;have J:=hide h;clear G h;simp only [aI];go_enter Tryz.func4,Tryz.ntmps4;go_wp2_with fail;refine (dH _ (I.out.al _)).mono ?_;rintro e H ⟨rfl,f⟩;have O:w.heap.size<H.heap.size:=am f;have o:Hid (Below w w H):=ww f;have E:=hide (az f af (be w c));obtain ⟨q0,q1,q2,q3,q4,q5,q6,q7,q8,q9,U,V,W,Y⟩:=E.out;clear f;rcases J.out with h | h | h
 ·have F:(c.kind==6)=true:=by simp [h]
  clear h;go_wp2_with fail
  all_goals first
   | (exfalso;omega)
   | (go_ret;exact ⟨rfl,o.out⟩)
 all_goals
  cases F:(c.kind==6)
  all_goals
   go_wp2_with fail
   all_goals first
    | (exfalso;omega)
    | (go_ret;exact ⟨rfl,o.out⟩)
theorem EW (c:aC) (y:Int) (w:World) (W:bQ w) (hn:c.name.size≤100) (Y:c.okB=false) (h:¬ (c.kind=6∨y<c.first∨c.last<y)) :
  Calls Tryz.prog 4 #[aI c,y] w fun e w'=>e=.returned (.bool true)∧Below w w w':=by
 have HL:=hide W;have HO:=hide (show dI c=1 by simp [dI,Y]);have aa:(c.kind==6)=false:=by simpa using fun x=>h (.inl x)
 have h1:c.first≤y∧y≤c.last:=om
 clear W Y h;simp only [aI];go_enter Tryz.func4,Tryz.ntmps4;go_wp2_with fail;refine (dH _ (HL.out.al _)).mono ?_;rintro e w1 ⟨rfl,f⟩;have ab:w.heap.size<w1.heap.size:=am f;have J:Hid (Below w w w1):=ww f;have E:=hide (az f af (be w c));obtain ⟨q0,q1,q2,q3,q4,q5,q6,q7,q8,q9,F,G,H,I⟩:=E.out;clear f;go_wp2_with fail
 all_goals first
  | (exfalso;omega)
  | skip
 refine (bg c _ om).mono ?_;rintro e V ⟨rfl,o⟩;rw [HO.out];have ac:w.heap.size<V.heap.size:=am o;have O:Hid (Below w w V):=au J.out o;have U:Hid (bR V w c):=by have hp:=E.out;exact qq o
 clear q0 q1 q2 q3 q4 q5 q6 q7 q8 q9 F G H I;obtain ⟨q0,q1,q2,q3,q4,q5,q6,q7,q8,q9,F,G,H,I⟩:=U.out;clear o;go_wp2;go_ret;exact ⟨rfl,O.out⟩
theorem Et (c:aC) (y:Int) (w:World) (d:Int) (hL:bQ w) (hn:c.name.size≤100) (hk:c.okB=true) (bk:¬ c.kind=6) (h1:c.first≤y) (h2:y≤c.last) (c2:bM c y=d) (hd:d=364∨d=371) :
  Calls Tryz.prog 4 #[aI c,y] w fun e w'=>e=.returned (.bool true)∧Below w w w':=by
 have a2:c.Ok:=by simpa [aC.okB] using hk
 have bh:=fN (lv:=4) a2 om om h1 h2;have b8:=fN (lv:=1) a2 om om h1 h2;have hA:=(bv b8).2.2.2.2.2.2;obtain ⟨b0,b1,b2,b3,b4,b5,_,b7⟩:=sq c y hA bk;obtain ⟨sy,uy⟩:=BD b8;obtain ⟨s4,s6,d0,d1⟩:=ef a2;have c4:c.shape=1∨c.shape=2∨c.shape=3∨c.shape=4:=om;have dY:=jo c y hA;have ac:=m8 c y hk;rw [show (bH c y).length=aV c y from rfl] at ac;have HP:=hide (fun k h=>Bs c y hA bk k h);have a5:=hide (fun k h=>zf bh k h);have a7:aQ c y 0=aF c y:=by simp [aQ]
 have aB:aQ c y (aV c y)=bB c y+1:=(fR c y hA).1;have d2:=(br hA).2;have bl:=a2.1;unfold aC.served at bl;have ah:=hide (fun W=>jk c (y-1) W (kF hA));have ao:=hide (fun W=>jk c y W (dj hA));have cr:=hide (show dI c=0 by simp [dI,hk]);have bt:=hide (show ff c 4 y=(aV c y:Int)∧aR c 4 y=0 from ⟨by rw [vr bh,DF],bh⟩);have a6:=hide (And.intro sy uy);have b6:=hide (show rF (aF c y)=c.day % 7+1∧nC (aF c y)=0 by
  have:cH (aF c y)=true:=by simp [cH];omega
  exact ⟨by rw [rF,if_pos this];exact b3,by simp [nC,this]⟩)
 obtain ⟨P,hP⟩:∃ P,P=bB c (y-1):=⟨_,rfl⟩;have hS:aF c y=P+1:=om;have hQ:bB c y=P+d:=om;rw [← hP] at ah;rw [hQ] at ao a6 aB;rw [hS] at a6 b6 a7;obtain ⟨n,c3⟩:∃ n,n=aV c y:=⟨_,rfl⟩;rw [← c3] at dY ac HP a5 bt aB;obtain ⟨F,hF⟩:∃ F,F=aQ c y:=⟨_,rfl⟩;obtain ⟨M,hM⟩:∃ M,M=lV c y:=⟨_,rfl⟩;rw [← hF] at HP a5 a7 aB;rw [← hM,hS,hQ,c2] at HP;have HL:=hide hL;have dq:=hide ac;have cl:=hide a7;have cp:=hide aB;have c1:=hide c4;have d5:-1≤P∧P<3068037-384:=om;have eb:(c.kind==6)=false:=by simpa using bk
 have ea:c.day.tmod 7=c.day % 7:=Int.tmod_eq_emod_of_nonneg om;have ek:1602≤y∧y≤9996:=om;clear hL ac a7 aB c4 hS hQ hP hF hM a2 bh b8 hA b0 b1 b2 b3 b7 sy uy s4 s6 d0 d1 d2 bl hk bk c2 c3;simp only [aI];simp only [aI] at ah ao;go_enter Tryz.func4,Tryz.ntmps4;go_wp2_with fail;refine (dH _ (HL.out.al _)).mono ?_;rintro e w1 ⟨rfl,a8⟩;have el:w.heap.size<w1.heap.size:=am a8;have c6:Hid (Below w w w1):=ww a8;have cs:=hide (az a8 af (be w c));obtain ⟨I,J,O,U,V,Y,q6,q7,q8,q9,f,o,E,G⟩:=cs.out;clear a8;go_wp2_with fail
 all_goals first
  | (exfalso;omega)
  | skip
 refine (bg c _ om).mono ?_;rintro e w2 ⟨rfl,a9⟩;rw [cr.out];have em:w.heap.size<w2.heap.size:=am a9;have c7:Hid (Below w w w2):=au c6.out a9;have cv:Hid (bR w2 w c):=by have hp:=cs.out;exact qq a9
 clear I J O U V Y q6 q7 q8 q9 f o E G;obtain ⟨I,J,O,U,V,Y,q6,q7,q8,q9,f,o,E,G⟩:=cv.out;clear a9;go_wp2_with fail;refine (ah.out _).mono ?_;rintro e w3 ⟨rfl,ba⟩;have es:w.heap.size<w3.heap.size:=am ba;have c8:Hid (Below w w w3):=au c7.out ba;have cx:Hid (bR w3 w c):=by have hp:=cv.out;exact qq ba
 clear I J O U V Y q6 q7 q8 q9 f o E G;obtain ⟨I,J,O,U,V,Y,q6,q7,q8,q9,f,o,E,G⟩:=cx.out;clear ba;go_wp2_with fail;refine (ao.out _).mono ?_;rintro e w4 ⟨rfl,bb⟩;have ex:w.heap.size<w4.heap.size:=am bb;have c9:Hid (Below w w w4):=au c8.out bb;have cy:Hid (bR w4 w c):=by have hp:=cx.out;exact qq bb
 clear I J O U V Y q6 q7 q8 q9 f o E G;obtain ⟨I,J,O,U,V,Y,q6,q7,q8,q9,f,o,E,G⟩:=cy.out;clear bb;go_wp2_with fail;refine (lF c _ om).mono ?_;rintro e w5 ⟨rfl,bc⟩;rw [cr.out,← dq.out];have eA:w.heap.size<w5.heap.size:=am bc;have dd:Hid (Below w w w5):=au c9.out bc;have cS:Hid (bR w5 w c):=by have hp:=cy.out;exact qq bc
 clear I J O U V Y q6 q7 q8 q9 f o E G;obtain ⟨I,J,O,U,V,Y,q6,q7,q8,q9,f,o,E,G⟩:=cS.out;clear bc;go_wp2_with fail;refine (fI c ⟨1,y,1⟩ _ om).mono ?_;rintro e w6 ⟨rfl,bd⟩;rw [a6.out.1,a6.out.2];simp only [cw];have eB:w.heap.size<w6.heap.size:=am bd;have dg:Hid (Below w w w6):=au dd.out bd;have c0:Hid (bR w6 w c):=by have hp:=cS.out;exact qq bd
 clear I J O U V Y q6 q7 q8 q9 f o E G;obtain ⟨I,J,O,U,V,Y,q6,q7,q8,q9,f,o,E,G⟩:=c0.out;clear bd;go_wp2_with fail;refine (kY c 4 y _ om).mono ?_;rintro e w7 ⟨rfl,a0⟩;rw [bt.out.1,bt.out.2];have ds:=hide (show ml w7 w6 ⟨P+1,P+d⟩ from dB a0 af (fX w6 ⟨P+1,P+d⟩));have c5:w.heap.size<w7.heap.size:=am a0;have cc:Hid (Below w w w7):=au dg.out a0;have bx:Hid (bR w7 w c):=by have hp:=c0.out;exact qq a0
 clear I J O U V Y q6 q7 q8 q9 f o E G;obtain ⟨I,J,O,U,V,Y,q6,q7,q8,q9,f,o,E,G⟩:=bx.out;clear a0;obtain ⟨x0,x1⟩:=ds.out;have d3:P+d-P=d:=om;have d4:=zu (P+1) (P+d);go_wp2_with fail
 all_goals first
  | (exfalso;omega)
  | skip
 refine (cW _ _).mono ?_;rintro e w' ⟨rfl,rfl⟩;rw [b6.out.1,b6.out.2];rcases hd with rfl | rfl
 ·go_wp2_with fail
  all_goals first
   | (exfalso;omega)
   | skip
  go_loopw [18,19] (fun ca cb wr=>∃ k:Nat,cb=.int .i64 ((k:Int)+1)∧ca=.int .i64 (F k)∧k≤n∧bR wr w c∧w.heap.size<wr.heap.size∧Below w w wr) (fun _ s _=>(100-intOf s).toNat)
  case atStart=>exact ⟨0,by simp,by rw [cl.out],by omega,bx.out,c5,cc.out⟩
  case round =>
   obtain ⟨k,rfl,rfl,hk,hQ,ab,hB⟩:=hrel;have HQ:=hide hQ;have HB:=hide hB;clear hB hQ;by_cases a1:k<n
   ·obtain ⟨p1,p2,p3,p4,p5,p6,p7⟩:=HP.out k a1
    obtain ⟨s1,s2⟩:=a5.out k a1;obtain ⟨m,hm⟩:∃ m,M k=m:=⟨_,rfl⟩;obtain ⟨a,ha⟩:∃ a,F k=a:=⟨_,rfl⟩;rw [p1,ha,hm] at p5 p6 s1;rw [ha,hm] at p1;rw [hm] at p2 p3 p7;rw [ha] at p4;rw [ha];have bw:=hide p1;have aA:=hide (And.intro s1 s2);have ad:=hide (fun W=>oo c k m (a+7*(m:Int)-1) false W c1.out om om om p6 (fun h=>by have:=p7 h;simpa using this));simp only [aI] at ad;clear p1 p6 p7 s1 s2 ha hm;obtain ⟨I,J,O,U,V,Y,q6,q7,q8,q9,f,o,E,G⟩:=HQ.out;have e1:a+7*(m:Int)-1-a+1=7*(m:Int):=om;have e2:(7*(m:Int)).tmod 7=0:=by rw [Int.tmod_eq_emod_of_nonneg om];omega
    have e3:(7*(m:Int)).tdiv 7=(m:Int):=by rw [Int.tdiv_eq_ediv_of_nonneg om];omega
    go_wp2_with fail;refine (fI c ⟨4,y,(k:Int)+1⟩ _ om).mono ?_;rintro e w8 ⟨rfl,aa⟩;rw [aA.out.1,aA.out.2];simp only [cw];have aq:=hide (az aa ab HQ.out);have bp:=hide (HB.out.trans (aa.mono (Nat.le_of_lt ab)));have a4:w.heap.size<w8.heap.size:=Nat.lt_of_lt_of_le ab aa.size;clear aa;clear I J O U V Y q6 q7 q8 q9 f o E G;obtain ⟨I,J,O,U,V,Y,q6,q7,q8,q9,f,o,E,G⟩:=aq.out;go_wp2_with fail
    all_goals first
     | (exfalso;omega)
     | skip
    refine (ad.out _).mono ?_;rintro e w9 ⟨rfl,H⟩;have bX:=hide (az H ag (bG aq.out a4 _));have a3:ml w9 w8 ⟨a,a+7*(m:Int)-1⟩:=dB H af (fX w8 ⟨a,a+7*(m:Int)-1⟩);have bs:=hide ((bp.out.alloc (Nat.le_of_lt a4) _).trans (H.mono ag));have b9:w.heap.size<w9.heap.size:=am H;clear H;clear I J O U V Y q6 q7 q8 q9 f o E G;obtain ⟨z0,z1⟩:=a3;go_wp2;go_roundw
    case rel=>exact ⟨k+1,by go_num,by rw [bw.out],by omega,bX.out,b9,bs.out⟩
    case measure=>simp [intOf];omega
   ·obtain rfl:k=n:=om
    rw [cp.out];go_wp2;go_ret;exact ⟨by simp,HB.out⟩
 ·go_wp2_with fail
  all_goals first
   | (exfalso;omega)
   | skip
  go_loopw [18,19] (fun ca cb wr=>∃ k:Nat,cb=.int .i64 ((k:Int)+1)∧ca=.int .i64 (F k)∧k≤n∧bR wr w c∧w.heap.size<wr.heap.size∧Below w w wr) (fun _ s _=>(100-intOf s).toNat)
  case atStart=>exact ⟨0,by simp,by rw [cl.out],by omega,bx.out,c5,cc.out⟩
  case round =>
   obtain ⟨k,rfl,rfl,hk,hQ,ab,hB⟩:=hrel;have HQ:=hide hQ;have HB:=hide hB;clear hB hQ;by_cases a1:k<n
   ·obtain ⟨p1,p2,p3,p4,p5,p6,p7⟩:=HP.out k a1
    obtain ⟨s1,s2⟩:=a5.out k a1;obtain ⟨m,hm⟩:∃ m,M k=m:=⟨_,rfl⟩;obtain ⟨a,ha⟩:∃ a,F k=a:=⟨_,rfl⟩;rw [p1,ha,hm] at p5 p6 s1;rw [ha,hm] at p1;rw [hm] at p2 p3 p7;rw [ha] at p4;rw [ha];have bw:=hide p1;have aA:=hide (And.intro s1 s2);have ad:=hide (fun W=>oo c k m (a+7*(m:Int)-1) true W c1.out om om om p6 (fun h=>by have:=p7 h;simpa using this));simp only [aI] at ad;clear p1 p6 p7 s1 s2 ha hm;obtain ⟨I,J,O,U,V,Y,q6,q7,q8,q9,f,o,E,G⟩:=HQ.out;have e1:a+7*(m:Int)-1-a+1=7*(m:Int):=om;have e2:(7*(m:Int)).tmod 7=0:=by rw [Int.tmod_eq_emod_of_nonneg om];omega
    have e3:(7*(m:Int)).tdiv 7=(m:Int):=by rw [Int.tdiv_eq_ediv_of_nonneg om];omega
    go_wp2_with fail;refine (fI c ⟨4,y,(k:Int)+1⟩ _ om).mono ?_;rintro e w8 ⟨rfl,aa⟩;rw [aA.out.1,aA.out.2];simp only [cw];have aq:=hide (az aa ab HQ.out);have bp:=hide (HB.out.trans (aa.mono (Nat.le_of_lt ab)));have a4:w.heap.size<w8.heap.size:=Nat.lt_of_lt_of_le ab aa.size;clear aa;clear I J O U V Y q6 q7 q8 q9 f o E G;obtain ⟨I,J,O,U,V,Y,q6,q7,q8,q9,f,o,E,G⟩:=aq.out;go_wp2_with fail
    all_goals first
     | (exfalso;omega)
     | skip
    refine (ad.out _).mono ?_;rintro e w9 ⟨rfl,H⟩;have bX:=hide (az H ag (bG aq.out a4 _));have a3:ml w9 w8 ⟨a,a+7*(m:Int)-1⟩:=dB H af (fX w8 ⟨a,a+7*(m:Int)-1⟩);have bs:=hide ((bp.out.alloc (Nat.le_of_lt a4) _).trans (H.mono ag));have b9:w.heap.size<w9.heap.size:=am H;clear H;clear I J O U V Y q6 q7 q8 q9 f o E G;obtain ⟨z0,z1⟩:=a3;go_wp2;go_roundw
    case rel=>exact ⟨k+1,by go_num,by rw [bw.out],by omega,bX.out,b9,bs.out⟩
    case measure=>simp [intOf];omega
   ·obtain rfl:k=n:=om
    rw [cp.out];go_wp2;go_ret;exact ⟨by simp,HB.out⟩
theorem Cy (c:aC) (H:c.name.size≤9223372036854775807) (y:Int) (w:World) (o:bQ w) :
    Calls Tryz.prog 4 #[aI c,y] w fun e w'=>e=.returned (.bool true)∧Below w w w':=by
  by_cases h:100<c.name.size
  · exact C6 c y w o h H
  · by_cases f:c.kind=6∨y<c.first∨c.last<y
    · exact Ap c y w o om f
    · cases E:c.okB
      · exact EW c y w o om E f
      · have G : aP c y 1601 = 0 := by
          have F:c.Ok:=by simpa [aC.okB] using E
          have:=F.1;unfold aC.served at this;simp [aP,E];omega
        exact Et c y w (bM c y) o om E (fun x=>f (.inl x)) om om rfl (dt c y G (fun x=>f (.inl x)))
end
end Go.Proofs.YtpebkobmhhnojaaGreatDoor
namespace Go.Proofs.YtpebkobmhhnojaaGreatDoor.topWeeks
section
open Go.ChangeShapes Go.WideShapes Go.ChangeAt Go.RowKit Qd
theorem Gv:Tryz.prog.readableRec 24=true∧24<Tryz.prog.types.size:=⟨by kernel_rfl,of_decide_eq_true (by kernel_rfl)⟩
theorem Fo:Tryz.prog.readableRec 3=true∧3<Tryz.prog.types.size:=⟨by kernel_rfl,of_decide_eq_true (by kernel_rfl)⟩
theorem lifted (os:Os) (F:os.Started) (H:Type) (enc:TypeId × Value→H) :
  ReturnsInHanded {} Tryz.checked os 4 .any (fun w f=>(Rows.topWeeksSpec.pre enc Tryz.prog Tryz.f4 Rows.topWeeksRow.domain false w f∧laidMetH Tryz.prog Rows.topWeeksRow.laid w)∧sizedMet enc Tryz.prog Tryz.f4 (OpenSpec.ofChange Rows.topWeeksSpec) false w f) (Rows.topWeeksSpec.post enc Tryz.prog Tryz.f4 false true false false):=by
 refine iU (C:=Tryz.checked) (X:=fun w _=>laidMetH Tryz.prog Rows.topWeeksRow.laid w) (fun _ _ _ hh h=>h.of_heap hh) own F (by kernel_rfl) Tryz.func4
  (ChangeSpec.witness_shaped (enc:=enc) (C:=Tryz.checked) (os:=os) (X:=fun w _=>laidMetH Tryz.prog Rows.topWeeksRow.laid w) false (World.laidAll Tryz.prog os Rows.topWeeksRow.laid) #[.agg #[.string ⟨#[]⟩,.int .i64 0,.int .i64 0,.int .i64 0,.int .i64 0,.int .i64 0,.int .i64 0,.int .i64 0,.int .i64 0,.int .i64 0,.int .i64 0,.int .i64 0,.int .i64 0,.int .i64 0],.int .i64 0] 8 (World.laidAll_os _ _ _)
   (World.shaped_of_ZipB (by kernel_rfl) (by kernel_rfl)) (by kernel_rfl) (by kernel_rfl) (by kernel_rfl)
   (by rw [MakeChecks.laidMetH_plain _ _ _ (by kernel_rfl)];exact laidMet_laidAll _ (by kernel_rfl) (by kernel_rfl))) ?_
 intro W G f ds gs U E hW hL ad;have o:∀ (j:Nat) t v,Tryz.f4.params[j]?=some t→f[j]?=some v→Value.okWide Tryz.prog W .any G t v:=E;have J:=hW;obtain ⟨p,q,I,hV,rfl,aq,aA⟩:=hW;have V:DataW.TrodAll enc Tryz.prog W 0 (fun _=>true) true Tryz.f4.params.toList f.toList ds p:=I;have Y:=V;rw [Tryz.params4] at V o;obtain ⟨v0,a3,d0,al,p0,q0,aa,rfl,aB,h0,r0⟩:=trodAll_cons V;obtain ⟨v1,a4,d1,ao,p1,q1,rfl,rfl,a0,h1,r1⟩:=trodAll_cons r0;obtain ⟨rfl,rfl,a2⟩:=trodAll_nil r1;obtain rfl:f=#[v0,v1]:=by cases f;simp_all
 obtain ⟨rfl,rfl⟩:=trodVars_none hV;obtain ⟨c0,rfl,ac,ah⟩:=mu (o 0 24 v0 rfl rfl) h0;obtain ⟨a1,rfl,_,_,w1⟩:=open_int Tryz.underlying3 (o 1 3 v1 rfl rfl) h1;clear I E;refine ((fun c hn _ y _=>Cy c hn y W (pm hL ad)) c0 ac ah a1 w1).mono fun e W' ⟨he,hb⟩=>?_
 subst he;have ab:∀ x∈p++[],x.block<W.heap.size:=fun x O=>J.lt x O
 refine ⟨_,rfl,gG (pa:=p) (pv:=[]) J (fun _ _ _=>(trodAll_cons_mk (shut_bool Tryz.underlying4 _) trodAll_mk0)) (fun sp hs=>?_) (fun _ _=>rfl) rfl hb (ok_one (by kernel_rfl) rfl (okWide_bool_mk Tryz.underlying4 _))⟩;exact eN pb (by rw [Tryz.params4];intro t ht;simp only [List.mem_cons,List.not_mem_nil,or_false] at ht;rcases ht with rfl | rfl <;> first | exact Gv | exact Fo) Y (fun x O=>hb.same (ab x (List.mem_append_left _ O))) (fun x O=>hs x (List.mem_append_left _ O))
theorem yP:Rows.topWeeksRow.holds Tryz.pinned (OpenSpec.ofChange Rows.topWeeksSpec):=
 OpenClaim.holds_of_wide 4 Tryz.f4 rfl rfl rfl rfl rfl rfl rfl ⟨rfl,rfl,rfl,rfl,rfl⟩ rfl rfl rfl rfl rfl (by kernel_rfl) Tryz.func4 mE
  (of_decide_eq_true (by kernel_rfl)) (by unfold Func.isWrapper;rw [if_neg (of_decide_eq_false (by kernel_rfl))];exact ⟨rfl,rfl⟩)
  (fun os f H enc _=>lifted os f H enc)
theorem proved:Rows.TopWeeksCardSaid:=
 Claim7.holds_tied_plain_at .later [] [.data,.data,.data,.data,.pinned] true (true, "217ccb0b19a70f3b3cb9e823034708ac5b031a0391e28b0d26703c089ceaedfa") false yP (fun _ h=>by cases h) (by kernel_rfl) (fun _ h=>by cases h) topWeeks_row_tie rfl ⟨rfl,rfl⟩ (by kernel_rfl) rfl
  (fun f G H E=>by
   obtain rfl:f=4:=Option.some.inj ((show Tryz.prog.funcNamed "quarterday/quarterdaytop.TopWeeks" = some 4 by kernel_rfl).symm.trans H) |>.symm;obtain rfl:G=Tryz.f4:=(Option.some.inj (Tryz.func4.symm.trans E)).symm;exact ⟨by kernel_rfl,fun j t F=>by
    rw [Tryz.params4] at F;have I:t∈[24,3]:=by simpa using Array.mem_of_getElem? F
    have o:([24,3].all fun u=>!Tryz.prog.wantsStandIn u)=true:=by kernel_rfl
    exact (show Tryz.prog.wantsStandIn t=false by simpa using List.all_eq_true.1 o t I)⟩)
  (by kernel_rfl)
#print axioms proved
end
end Go.Proofs.YtpebkobmhhnojaaGreatDoor.topWeeks
