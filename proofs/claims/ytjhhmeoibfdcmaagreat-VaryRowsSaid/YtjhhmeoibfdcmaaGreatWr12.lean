/- Lemmas. -/
import Derived.Test.YtjhhmeoibfdcmaaGreatWr04
import Derived.Test.YtjhhmeoibfdcmaaGreatWr09
set_option linter.unusedSimpArgs false
set_option linter.unusedVariables false
set_option maxRecDepth 100000
set_option maxHeartbeats 12800000
namespace Go.Proofs.YtjhhmeoibfdcmaaGreat
section
open Go.RowKit Qd
theorem r9 (y:Int) (w:World) :
  Calls Tryz.prog 189 #[y] w fun e F=>e=.returned (.bool (fS y))∧w=F:=by
 by_cases E:1600≤y∧y≤9999
 ·have G:y.tmod 4=y % 4:=Int.tmod_eq_emod_of_nonneg om
  have f:y.tmod 100=y % 100:=Int.tmod_eq_emod_of_nonneg om;have o:y.tmod 400=y % 400:=Int.tmod_eq_emod_of_nonneg om;have H:=hide (show fS y=(decide (y % 400=0) || (decide (y % 4=0)&&decide (y % 100≠0))) by simp [fS,E.1,E.2]);go_enter Tryz.func189,Tryz.ntmps189;go_wp2
  all_goals first
   | (exfalso;omega)
   | (go_ret;refine ⟨aY ?_,rfl⟩;rw [H.out];simp;omega)
   | (go_ret;refine ⟨aY ?_,rfl⟩;rw [H.out];grind)
 ·have H:=hide (show fS y=false by simp [fS];omega)
  rcases (show y<1600∨(1600≤y∧9999<y) by omega) with h | ⟨h,I⟩
  all_goals
   go_enter Tryz.func189,Tryz.ntmps189;go_wp2
   all_goals first
    | (exfalso;omega)
    | (go_ret;exact ⟨aY H.out.symm,rfl⟩)
theorem JV (y m:Int) (h:aP y m=true) (f:m=4∨m=6∨m=9∨m=11):bS y m=30:=by
 simp only [bS,h,if_true,aK,lR];rcases f with rfl | rfl | rfl | rfl <;> simp <;> split <;> omega
theorem Kh (y:Int) (h:aP y 2=true):bS y 2=28+if fS y=true then 1 else 0:=by
 simp only [bS,h,if_true,aK,lR];cases fS y <;> simp
theorem I7 (y m:Int) (h:aP y m=true) (o:¬ (m=4∨m=6∨m=9∨m=11)∧¬ m=2):bS y m=31:=by
 have f:m=1∨m=3∨m=5∨m=7∨m=8∨m=10∨m=12:=by simp [aP] at h;omega
 simp only [bS,h,if_true,aK,lR];rcases f with rfl | rfl | rfl | rfl | rfl | rfl | rfl <;> simp <;> split <;> omega
theorem bT (y m:Int) (w:World) :
  Calls Tryz.prog 120 #[y,m] w fun e I=>e=.returned (.tuple #[bS y m,dI y m])∧w=I:=by
 by_cases O:1600≤y∧y≤9999∧1≤m∧m≤12
 ·have o:aP y m=true:=by simp [aP];omega
  have F:=hide (show dI y m=0 by simp [dI,o]);obtain ⟨R,S,T,U⟩:=O;by_cases G:m=4∨m=6∨m=9∨m=11
  ·have f:=hide (JV y m o G)
   clear o;rcases G with rfl | rfl | rfl | rfl
   all_goals
    go_enter Tryz.func120,Tryz.ntmps120;go_wp2_with fail
    all_goals first
     | (exfalso;omega)
     | (go_ret2;exact ⟨aw f.out.symm F.out.symm,rfl⟩)
  ·by_cases E:m=2
   ·subst E
    have f:=hide (Kh y o);clear o;cases H:fS y
    all_goals
     rw [H] at f;go_enter Tryz.func120,Tryz.ntmps120;go_wp2_with (first | (go_at_call 189;refine (r9 _ _).mono ?_;rintro e I ⟨rfl,rfl⟩;rw [H]))
     all_goals first
      | (exfalso;omega)
      | (go_ret2;exact ⟨aw (by rw [f.out];simp) F.out.symm,rfl⟩)
   ·have f:=hide (I7 y m o ⟨G,E⟩)
    clear o;have V:(m==4)=false:=ae;have W:(m==6)=false:=ae;have n3:(m==9)=false:=ae;have n4:(m==11)=false:=ae;have n5:(m==2)=false:=ae;clear G E;go_enter Tryz.func120,Tryz.ntmps120;go_wp2_with fail
    all_goals first
     | (exfalso;omega)
     | (go_ret2;exact ⟨aw f.out.symm F.out.symm,rfl⟩)
 ·have f:=hide (show bS y m=0 by simp [bS,aP];omega)
  have F:=hide (show dI y m=4 by simp [dI,aP];omega);rcases (show y<1600∨(1600≤y∧9999<y)∨(1600≤y∧y≤9999∧m<1)∨(1600≤y∧y≤9999∧1≤m∧12<m) by omega) with h | ⟨h,E⟩ | ⟨h,E,J⟩ | ⟨h,E,J,G⟩
  all_goals
   go_enter Tryz.func120,Tryz.ntmps120;go_wp2_with fail
   all_goals first
    | (exfalso;omega)
    | (go_ret2;exact ⟨aw f.out.symm F.out.symm,rfl⟩)
theorem ol (y m d:Int) (w:World) :
  Calls Tryz.prog 190 #[.agg #[y,m,d]] w fun e S=>e=.returned (.int .i64 (cQ y m d))∧Below w w S:=by
 cases G:aP y m
 ·have o:dI y m=4:=by simp [dI,G]
  have R:Hid (cQ y m d=4):=by simp [Hid,cQ,dc,G]
  go_enter Tryz.func190,Tryz.ntmps190;go_wp2_with fail;refine (bT _ _ _).mono ?_;rintro e J ⟨rfl,rfl⟩;rw [o];go_wp2
  all_goals first | (exfalso;omega) | (go_ret;exact ⟨aZ R.out.symm,by (repeat' exact bel)⟩)
 ·have o:dI y m=0:=by simp [dI,G]
  have E:d<1∨(1≤d∧bS y m<d)∨(1≤d∧d≤bS y m):=om;have O:cQ y m d=if 1≤d∧d≤bS y m then 0 else 4:=by simp [cQ,dc,G]
  have H:=hide O;clear O;obtain ⟨v,f⟩:∃ v,cQ y m d=v:=⟨_,rfl⟩;have I:=hide f;rcases E with E | ⟨E,F⟩ | ⟨E,F⟩
  ·have h:v=4:=by rw [← f,H.out,if_neg om]
   subst h;clear f;go_enter Tryz.func190,Tryz.ntmps190;go_wp2_with fail;refine (bT _ _ _).mono ?_;rintro e J ⟨rfl,rfl⟩;rw [o];go_wp2
   all_goals first
    | (exfalso;omega)
    | (go_ret;exact ⟨aZ I.out.symm,by (repeat' exact bel)⟩)
  ·have h:v=4:=by rw [← f,H.out,if_neg om]
   subst h;clear f;go_enter Tryz.func190,Tryz.ntmps190;go_wp2_with fail;refine (bT _ _ _).mono ?_;rintro e J ⟨rfl,rfl⟩;rw [o];go_wp2
   all_goals first
    | (exfalso;omega)
    | (go_ret;exact ⟨aZ I.out.symm,by (repeat' exact bel)⟩)
  ·have h:v=0:=by rw [← f,H.out,if_pos ⟨E,F⟩]
   subst h;clear f;go_enter Tryz.func190,Tryz.ntmps190;go_wp2_with fail;refine (bT _ _ _).mono ?_;rintro e J ⟨rfl,rfl⟩;rw [o];go_wp2
   all_goals first
    | (exfalso;omega)
    | (go_ret;exact ⟨aZ I.out.symm,by (repeat' exact bel)⟩)
def je (y:Int):Int:=if fS y=true then 366 else 365
theorem lw (y:Int) (w:World) :
  Calls Tryz.prog 191 #[y] w fun e h=>e=.returned (.int .i64 (je y))∧w=h:=by
 cases f:fS y
 all_goals
  have H:=hide (show je y=if fS y=true then 366 else 365 from rfl);rw [f] at H;go_enter Tryz.func191,Tryz.ntmps191;go_wp2_with (first | (go_at_call 189;refine (r9 _ _).mono ?_;rintro e h ⟨rfl,rfl⟩;rw [f]));go_ret;exact ⟨aZ (by rw [H.out];rfl),rfl⟩
theorem pV (y:Int) (f:1600≤y) (h:y≤9999):aV (y+1)=aV y+je y:=by
 rw [ed y f h,je];split <;> omega
theorem rQ (y:Int) (f:1600≤y) (h:(y-1600) % 400=0):aV (y+400)=aV y+146097:=by
 unfold aV;omega
theorem zh (y:Int):365≤je y∧je y≤366:=by unfold je;split <;> omega
theorem Hk (y m d:Int) (w:World) (E:dc y m d=false) :
  Calls Tryz.prog 121 #[.agg #[y,m,d]] w fun e J=>e=.returned (.tuple #[iY y m d,cQ y m d])∧Below w w J:=by
 have F:cQ y m d=4:=by simp [cQ,E]
 have H:=hide (show iY y m d=0 by simp [iY,E]);have h:=hide F;clear F;go_enter Tryz.func121,Tryz.ntmps121;go_wp2_with fail;refine (ol _ _ _ _).mono ?_;rintro e G ⟨rfl,f⟩;rw [h.out];have I:w.heap.size<G.heap.size:=aj f;have o:Below w w G:=by refine Below.trans ?_ (f.mono ac);(repeat' exact bel)
 clear f;go_wp2;go_ret2;exact ⟨aw H.out.symm h.out.symm,by (repeat' exact bel)⟩
theorem FG (y m d:Int) (w:World) (hd:dc y m d=true) :
  Calls Tryz.prog 121 #[.agg #[y,m,d]] w fun e w'=>e=.returned (.tuple #[iY y m d,cQ y m d])∧Below w w w':=by
 have H2:=hide (show cQ y m d=0 by simp [cQ,hd]);have H1:=hide (show iY y m d=aV y+aK y m+d-1 by rw [iY,if_pos hd];rfl);have ht:1600≤y∧y≤9999∧1≤m∧m≤12∧1≤d∧d≤bS y m:=by simp [dc,aP] at hd;omega
 have a0:=jX y m;have U:=fun z (h1:1600≤z) (h2:z≤10000)=>iI z h1 h2
 have R:=hide U;have ad:=hide rQ;have ah:=hide pV;have S:=ep y;have J:=hide S;clear hd U S;go_enter Tryz.func121,Tryz.ntmps121;go_wp2_with fail;refine (ol _ _ _ _).mono ?_;rintro e w1 ⟨rfl,E⟩;rw [H2.out];have a1:w.heap.size<w1.heap.size:=aj E;have HB:=hide (show Below w w w1 by refine Below.trans ?_ (E.mono ac);(repeat' exact bel));have GD:=hide ((ap.new w #[y,m,d] 135).call E);have d0:w1.cell? ⟨w,0,none⟩=some (.int .i64 y):=GD.out.cell 0;have d1:w1.cell? ⟨w,1,none⟩=some (.int .i64 m):=GD.out.cell 1;have d2:w1.cell? ⟨w,2,none⟩=some (.int .i64 d):=GD.out.cell 2;clear E;go_wp2_with fail;go_loop [5,6] (fun sn I=>∃ z:Int,I=.int .i64 z∧sn=.int .i64 (aV z)∧1600≤z∧z≤y∧(z-1600) % 400=0) (fun _ I=>(10000-intOf I).toNat)
 case atStart=>exact ⟨1600,rfl,by rw [mf],by omega,by omega,by omega⟩
 case round =>
  obtain ⟨z,rfl,rfl,f,V,W⟩:=hrel;have o:=R.out z f om;by_cases T:z+400≤y
  ·have O:=hide (ad.out z f W)
   obtain ⟨Y,h⟩:∃ Y,aV z=Y:=⟨_,rfl⟩;rw [h] at O o;rw [h];clear h;go_wp2;go_round
   case rel=>exact ⟨z+400,rfl,by rw [O.out],by omega,by omega,by omega⟩
   case measure=>simp [intOf];omega
  ·go_wp2_with fail
   go_loop [5,6] (fun sn I=>∃ z:Int,I=.int .i64 z∧sn=.int .i64 (aV z)∧1600≤z∧z≤y) (fun _ I=>(10000-intOf I).toNat)
   case atStart=>exact ⟨z,rfl,rfl,f,V⟩
   case round =>
    clear o W T;obtain ⟨z,rfl,rfl,f,V⟩:=hrel;have o:=R.out z f om;by_cases T:z<y
    ·have O:=hide (ah.out z f om)
     have aq:=zh z;obtain ⟨Y,h⟩:∃ Y,aV z=Y:=⟨_,rfl⟩;obtain ⟨G,hG⟩:∃ Y,je z=Y:=⟨_,rfl⟩;have HG:=hide hG;rw [h,hG] at O;rw [h] at o;rw [hG] at aq;rw [h];clear h hG;go_wp2_with fail;refine (lw _ _).mono ?_;rintro e w2 ⟨rfl,rfl⟩;rw [HG.out];go_wp2;go_round
     case rel=>exact ⟨z+1,rfl,by rw [O.out],by omega,by omega⟩
     case measure=>simp [intOf];omega
    ·obtain rfl:z=y:=om
     obtain ⟨Y,h⟩:∃ Y,aV z=Y:=⟨_,rfl⟩;rw [h] at H1 o;rw [h];clear h;go_wp2_with fail;go_loop [5,7] (fun sn sm=>∃ j:Int,sm=.int .i64 j∧sn=.int .i64 (Y+aK z j)∧1≤j∧j≤m) (fun _ sm=>(20-intOf sm).toNat)
     case atStart=>exact ⟨1,rfl,by rw [lB];simp,by omega,by omega⟩
     case round =>
      obtain ⟨j,rfl,rfl,aB,aF⟩:=hrel;have ha:=J.out j;by_cases aA:j<m
      ·have H:aP z j=true:=by simp [aP];omega
       have HL:=hide (And.intro (show dI z j=0 by simp [dI,H]) (show bS z j=aK z (j+1)-aK z j by simp [bS,H]));have al:=J.out (j+1);obtain ⟨A,F⟩:∃ A,aK z j=A:=⟨_,rfl⟩;obtain ⟨B,hB⟩:∃ A,aK z (j+1)=A:=⟨_,rfl⟩;rw [F,hB] at HL;have ab:=hide hB;rw [F] at ha;rw [hB] at al;rw [F];clear H F hB;go_wp2_with fail;refine (bT _ _ _).mono ?_;rintro e w2 ⟨rfl,rfl⟩;rw [HL.out.1,HL.out.2];go_wp2;go_round
       case rel=>exact ⟨j+1,rfl,by rw [ab.out];congr 1;omega,by omega,by omega⟩
       case measure=>simp [intOf];omega
      ·obtain rfl:j=m:=om
       obtain ⟨A,F⟩:∃ A,aK z j=A:=⟨_,rfl⟩;rw [F] at H1 ha;rw [F];clear F;have ay:=HB.out;go_wp2;go_ret2;exact ⟨aw (by rw [H1.out]) H2.out.symm,by (repeat' exact bel)⟩
theorem pB (y m d:Int) (w:World) :
  Calls Tryz.prog 121 #[.agg #[y,m,d]] w fun e h=>e=.returned (.tuple #[iY y m d,cQ y m d])∧Below w w h:=by
 cases f:dc y m d
 ·exact Hk y m d w f
 ·exact FG y m d w f
theorem kf (day:Int) (w:World) :
  Calls Tryz.prog 188 #[day] w fun e I=>e=.returned (.tuple #[np day,nI day])∧Below w w I:=by
 rcases (show day<0∨(0≤day∧3068036<day)∨(0≤day∧day≤3068036) by omega) with h | ⟨h,H⟩ | ⟨h,H⟩
 ·have F:cH day=false:=by simp [cH];omega
  have E:Hid (nI day=4):=by simp [Hid,nI,F]
  have f:Hid (np day=0):=by simp [Hid,np,F]
  clear F;go_enter Tryz.func188,Tryz.ntmps188;go_wp2
  all_goals first
   | (exfalso;omega)
   | (go_ret2;exact ⟨aw f.out.symm E.out.symm,by (repeat' exact bel)⟩)
 ·have F:cH day=false:=by simp [cH];omega
  have E:Hid (nI day=4):=by simp [Hid,nI,F]
  have f:Hid (np day=0):=by simp [Hid,np,F]
  clear F;go_enter Tryz.func188,Tryz.ntmps188;go_wp2
  all_goals first
   | (exfalso;omega)
   | (go_ret2;exact ⟨aw f.out.symm E.out.symm,by (repeat' exact bel)⟩)
 ·have F:cH day=true:=by simp [cH];omega
  have E:Hid (nI day=0):=by simp [Hid,nI,F]
  have f:Hid (np day=(day+5) % 7+1):=by simp [Hid,np,F]
  have J:day.tmod 7=day % 7:=Int.tmod_eq_emod_of_nonneg h;clear F;rcases (show day % 7=0∨day % 7=1∨day % 7=2∨day % 7=3∨day % 7=4∨day % 7=5∨day % 7=6 by omega) with G | G | G | G | G | G | G
  ·have o:=hide (show np day=6 by rw [f];omega)
   clear f;go_enter Tryz.func188,Tryz.ntmps188;go_wp2
   all_goals first
    | (exfalso;omega)
    | (go_ret2;exact ⟨aw o.out.symm E.out.symm,by (repeat' exact bel)⟩)
  ·have o:=hide (show np day=7 by rw [f];omega)
   clear f;go_enter Tryz.func188,Tryz.ntmps188;go_wp2
   all_goals first
    | (exfalso;omega)
    | (go_ret2;exact ⟨aw o.out.symm E.out.symm,by (repeat' exact bel)⟩)
  ·have o:=hide (show np day=1 by rw [f];omega)
   clear f;go_enter Tryz.func188,Tryz.ntmps188;go_wp2
   all_goals first
    | (exfalso;omega)
    | (go_ret2;exact ⟨aw o.out.symm E.out.symm,by (repeat' exact bel)⟩)
  ·have o:=hide (show np day=2 by rw [f];omega)
   clear f;go_enter Tryz.func188,Tryz.ntmps188;go_wp2
   all_goals first
    | (exfalso;omega)
    | (go_ret2;exact ⟨aw o.out.symm E.out.symm,by (repeat' exact bel)⟩)
  ·have o:=hide (show np day=3 by rw [f];omega)
   clear f;go_enter Tryz.func188,Tryz.ntmps188;go_wp2
   all_goals first
    | (exfalso;omega)
    | (go_ret2;exact ⟨aw o.out.symm E.out.symm,by (repeat' exact bel)⟩)
  ·have o:=hide (show np day=4 by rw [f];omega)
   clear f;go_enter Tryz.func188,Tryz.ntmps188;go_wp2
   all_goals first
    | (exfalso;omega)
    | (go_ret2;exact ⟨aw o.out.symm E.out.symm,by (repeat' exact bel)⟩)
  ·have o:=hide (show np day=5 by rw [f];omega)
   clear f;go_enter Tryz.func188,Tryz.ntmps188;go_wp2
   all_goals first
    | (exfalso;omega)
    | (go_ret2;exact ⟨aw o.out.symm E.out.symm,by (repeat' exact bel)⟩)
theorem od (y m f:Int) (w:World) :
  Calls Tryz.prog 119 #[y,m,f] w fun e w'=>e=.returned (.tuple #[cz y m f,f9 y m f])∧Below w w w':=by
 cases o:aP y m
 ·have HE:=hide (show dI y m=4 by simp [dI,o])
  have F:f9 y m f=4:=by simp [f9,o]
  have H:=hide (show cz y m f=0 by rw [cz,if_neg om]);have T:=hide F;clear o F;go_enter Tryz.func119,Tryz.ntmps119;go_wp2_with fail;refine (bT _ _ _).mono ?_;rintro e w1 ⟨rfl,rfl⟩;rw [HE.out];go_wp2;go_ret2;exact ⟨aw H.out.symm T.out.symm,by (repeat' exact bel)⟩
 ·have HE:=hide (show dI y m=0 by simp [dI,o])
  by_cases hw:1≤f∧f≤7
  ·have F:f9 y m f=0:=by rw [f9,if_pos o,if_pos hw]
   have T:=hide F;have R:dc y m (bS y m)=true:=iR y m o;have HD:=hide (And.intro (show iY y m (bS y m)=bK y m by rw [iY,if_pos R];rfl) (show cQ y m (bS y m)=0 by rw [cQ,if_pos R]));have aA:=l0 y m o;have ay:=qv y m o;have I:gR y m=(bK y m+5) % 7+1:=rfl;have H:=hide (show cz y m f=bK y m-(gR y m-f+7) % 7 by rw [cz,if_pos F]);obtain ⟨J,hJ⟩:∃ J:Nat,(J:Int)=(gR y m-f+7) % 7:=⟨((gR y m-f+7) % 7).toNat,by omega⟩;rw [← hJ] at H;have V:=hide (fun (j:Nat) (h:j≤J)=>(show np (bK y m-j)=(bK y m-j+5) % 7+1∧nI (bK y m-j)=0∧((bK y m-j+5) % 7+1=f↔j=J) from by
    have hb:cH (bK y m-j)=true:=by simp [cH];omega
    exact ⟨by rw [np,if_pos hb],by rw [nI,if_pos hb],by omega⟩))
   have aF:J≤6:=om;obtain ⟨E,hE⟩:∃ E,bK y m=E:=⟨_,rfl⟩;rw [hE] at HD H V aA ay;obtain ⟨L,S⟩:∃ L,bS y m=L:=⟨_,rfl⟩;rw [S] at HD;have HL:=hide S;clear o F R hJ hE S I;go_enter Tryz.func119,Tryz.ntmps119;go_wp2_with fail;refine (bT _ _ _).mono ?_;rintro e w1 ⟨rfl,rfl⟩;rw [HE.out,HL.out];go_wp2_with fail
   all_goals first
    | (exfalso;omega)
    | skip
   refine (pB y m L _).mono ?_;rintro e w2 ⟨rfl,W⟩;rw [HD.out.1,HD.out.2];go_wp2_with fail;go_loopw [10] (fun s wr=>∃ j:Nat,s=.int .i64 (E-(j:Int))∧j≤J∧Below w w wr) (fun s _=>(intOf s).toNat)
   case atStart=>exact ⟨0,by simp,Nat.zero_le _,W⟩
   case round =>
    clear W;obtain ⟨j,rfl,hj,G⟩:=hrel;obtain ⟨d1,d2,d3⟩:=V.out j hj;have U:=hide (And.intro d1 d2);have aB:=G.size;go_wp2_with fail;refine (kf _ _).mono ?_;rintro e w3 ⟨rfl,ab⟩;rw [U.out.1,U.out.2];have aq:=G.trans (ab.mono aB);clear ab;by_cases O:j=J
    ·have ad:=d3.2 O
     rw [ad];subst O;clear d1 d2 d3 ad;go_wp2
     all_goals first
      | (exfalso;omega)
      | (go_ret2;exact ⟨aw H.out.symm T.out.symm,by (repeat' exact bel)⟩)
    ·have ah:¬ ((E-j+5) % 7+1=f):=fun h=>O (d3.1 h)
     have al:((E-(j:Int)+5) % 7+1==f)=false:=by simpa using ah
     obtain ⟨Q,hQ⟩:∃ Q,(E-(j:Int)+5) % 7+1=Q:=⟨_,rfl⟩;rw [hQ] at al ah ⊢;clear d1 d2 d3 hQ;go_wp2
     all_goals first
      | (exfalso;omega)
      | skip
     go_roundw
     case rel=>exact ⟨j+1,by congr 1;omega,by omega,by (repeat' exact bel)⟩
     case measure=>simp [intOf];omega
  ·have F:f9 y m f=1:=by rw [f9,if_pos o,if_neg hw]
   have H:=hide (show cz y m f=0 by rw [cz,if_neg om]);have T:=hide F;obtain ⟨L,S⟩:∃ L,bS y m=L:=⟨_,rfl⟩;have HL:=hide S;clear o F S;rcases (show f<1∨(1≤f∧7<f) by omega) with h | ⟨h,h2⟩
   all_goals
    go_enter Tryz.func119,Tryz.ntmps119;go_wp2_with fail;refine (bT _ _ _).mono ?_;rintro e w1 ⟨rfl,rfl⟩;rw [HE.out,HL.out];go_wp2_with fail
    all_goals first
     | (exfalso;omega)
     | (go_ret2;exact ⟨aw H.out.symm T.out.symm,by (repeat' exact bel)⟩)
theorem wJ (y m f:Int) (w:World) :
  Calls Tryz.prog 122 #[y,m,f] w fun e w'=>e=.returned (.tuple #[fg y m f,fm y m f])∧Below w w w':=by
 cases I:aP y m
 ·have HE:=hide (show dI y m=4 by simp [dI,I])
  have R:f9 y m f=4:=by simp [f9,I]
  have S:=hide (show fg y m f=0 by rw [fg,if_neg om]);have T:=hide (show fm y m f=4 by rw [fm,if_neg om];exact R);clear I R;go_enter Tryz.func122,Tryz.ntmps122;go_wp2_with fail;refine (bT _ _ _).mono ?_;rintro e w1 ⟨rfl,rfl⟩;rw [HE.out];go_wp2;go_ret2;exact ⟨aw S.out.symm T.out.symm,by (repeat' exact bel)⟩
 ·have HE:=hide (show dI y m=0 by simp [dI,I])
  by_cases hw:1≤f∧f≤7
  ·have R:f9 y m f=0:=by rw [f9,if_pos I,if_pos hw]
   have ah:dc y m (bS y m)=true:=iR y m I;have HD:=hide (And.intro (show iY y m (bS y m)=bK y m by rw [iY,if_pos ah];rfl) (show cQ y m (bS y m)=0 by rw [cQ,if_pos ah]));have a7:=l0 y m I;have a6:=qv y m I;have ab:gR y m=(bK y m+5) % 7+1:=rfl;have a5:dn y m f=(f-gR y m+7+3) % 7-3:=rfl;obtain ⟨J,hJ⟩:∃ J:Nat,(J:Int)=dn y m f+3:=⟨(dn y m f+3).toNat,by omega⟩;have bb:J≤6:=om;have aA:cH (bK y m)=true:=by simp [cH];omega
   have G:kr (bK y m) (dn y m f)=cH (bK y m-3+J):=by
    rw [kr,aA];simp only [cH,Bool.true_and];by_cases h1:bK y m-3+J<3068037
    ·have a1:decide (-bK y m≤dn y m f)=true:=ae
     have a2:decide (dn y m f<3068037-bK y m)=true:=ae;have a3:decide (0≤bK y m-3+(J:Int)∧bK y m-3+(J:Int)<3068037)=true:=ae;rw [a1,a2,a3];rfl
    ·have a2:decide (dn y m f<3068037-bK y m)=false:=ae
     have a3:decide (0≤bK y m-3+(J:Int)∧bK y m-3+(J:Int)<3068037)=false:=ae;rw [a2,a3,Bool.and_false]
   have S:=hide (show fg y m f=if cH (bK y m-3+J)=true then bK y m-3+J else 0 by rw [fg,if_pos R,qy,G];split <;> omega);have T:=hide (show fm y m f=if cH (bK y m-3+J)=true then 0 else 4 by rw [fm,if_pos R,pq,G]);have al:=hide (fun (j:Nat) (h:j≤6)=>(show (cH (bK y m-3+j)=true∧np (bK y m-3+j)=(bK y m-3+j+5) % 7+1∧nI (bK y m-3+j)=0∧((bK y m-3+j+5) % 7+1=f↔j=J))∨(cH (bK y m-3+j)=false∧3068037≤bK y m-3+j∧np (bK y m-3+j)=0∧nI (bK y m-3+j)=4) from by
    cases O:cH (bK y m-3+j)
    ·refine .inr ⟨rfl,?_,by simp [np,O],by simp [nI,O]⟩
     simp [cH] at O;omega
    ·exact .inl ⟨rfl,by simp [np,O],by simp [nI,O],by omega⟩))
   obtain ⟨E,hE⟩:∃ E,bK y m=E:=⟨_,rfl⟩;rw [hE] at HD S T al a7 a6;obtain ⟨L,hL⟩:∃ L,bS y m=L:=⟨_,rfl⟩;rw [hL] at HD;have HL:=hide hL;have a4:=hide (fun (j:Nat) (h:cH (E-3+j)=true)=>(show E-3+j<3068037 from by simp [cH] at h;omega));clear I R ah hJ hE hL ab a5 aA G;go_enter Tryz.func122,Tryz.ntmps122;go_wp2_with fail;refine (bT _ _ _).mono ?_;rintro e w1 ⟨rfl,rfl⟩;rw [HE.out,HL.out];go_wp2_with fail
   all_goals first
    | (exfalso;omega)
    | skip
   refine (pB y m L _).mono ?_;rintro e w2 ⟨rfl,aq⟩;rw [HD.out.1,HD.out.2];go_wp2_with fail;go_loopw [12] (fun s wr=>∃ j:Nat,s=.int .i64 (E-3+(j:Int))∧j≤7∧Hid (j≤J∨cH (E-3+J)=false)∧Below w w wr) (fun s _=>(E+10-intOf s).toNat)
   case atStart=>exact ⟨0,by simp,by omega,hide (.inl (Nat.zero_le _)),aq⟩
   case round =>
    clear aq;obtain ⟨j,rfl,hj,HJ,F⟩:=hrel;have a0:=F.size;by_cases a8:j≤6
    ·rcases al.out j a8 with ⟨V,d1,d2,d3⟩ | ⟨V,d9,d1,d2⟩
     ·have o:=hide (And.intro d1 d2)
      have ba:=a4.out j V;go_wp2_with fail
      all_goals first
       | (exfalso;omega)
       | skip
      refine (kf _ _).mono ?_;rintro e w3 ⟨rfl,H⟩;rw [o.out.1,o.out.2];have W:=F.trans (H.mono a0);clear H;by_cases ad:j=J
      ·have ay:=d3.2 ad
       rw [ay];subst ad;have R1:=hide (show fg y m f=E-3+j by rw [S.out,if_pos V]);have R2:=hide (show fm y m f=0 by rw [T.out,if_pos V]);clear V d1 d2 d3 ay;go_wp2
       all_goals first
        | (exfalso;omega)
        | (go_ret2;exact ⟨aw R1.out.symm R2.out.symm,by (repeat' exact bel)⟩)
      ·have aB:¬ ((E-3+j+5) % 7+1=f):=fun h=>ad (d3.1 h)
       have aF:((E-3+(j:Int)+5) % 7+1==f)=false:=by simpa using aB
       have U:=hide (show j+1≤J∨cH (E-3+J)=false by rcases HJ.out with h | h;exact .inl om;exact .inr h);obtain ⟨Q,hQ⟩:∃ Q,(E-3+(j:Int)+5) % 7+1=Q:=⟨_,rfl⟩;rw [hQ] at aF aB ⊢;clear V d1 d2 d3 hQ;go_wp2
       all_goals first
        | (exfalso;omega)
        | skip
       go_roundw
       case rel=>exact ⟨j+1,by congr 1;omega,by omega,U,by (repeat' exact bel)⟩
       case measure=>simp [intOf];omega
     ·have o:=hide (And.intro d1 d2)
      have U:=hide (show j+1≤J∨cH (E-3+J)=false by
       rcases HJ.out with h | h
       ·right
        simp only [cH,decide_eq_false_iff_not];omega
       ·exact .inr h)
      go_wp2_with fail
      all_goals first
       | (exfalso;omega)
       | skip
      refine (kf _ _).mono ?_;rintro e w3 ⟨rfl,H⟩;rw [o.out.1,o.out.2];have W:=F.trans (H.mono a0);clear H V d1 d2;go_wp2
      all_goals first
       | (exfalso;omega)
       | skip
      go_roundw
      case rel=>exact ⟨j+1,by congr 1;omega,by omega,U,by (repeat' exact bel)⟩
      case measure=>simp [intOf];omega
    ·obtain rfl:j=7:=om
     have O:cH (E-3+J)=false:=by
      rcases HJ.out with h | h
      ·exfalso;omega
      ·exact h
     have R1:=hide (show fg y m f=0 by rw [S.out,if_neg (by rw [O];decide)]);have R2:=hide (show fm y m f=4 by rw [T.out,if_neg (by rw [O];decide)]);clear O;go_wp2
     all_goals first
      | (exfalso;omega)
      | (go_ret2;exact ⟨aw R1.out.symm R2.out.symm,by (repeat' exact bel)⟩)
  ·have R:f9 y m f=1:=by rw [f9,if_pos I,if_neg hw]
   have S:=hide (show fg y m f=0 by rw [fg,if_neg om]);have T:=hide (show fm y m f=1 by rw [fm,if_neg om];exact R);obtain ⟨L,hL⟩:∃ L,bS y m=L:=⟨_,rfl⟩;have HL:=hide hL;clear I R hL;rcases (show f<1∨(1≤f∧7<f) by omega) with h | ⟨h,h2⟩
   all_goals
    go_enter Tryz.func122,Tryz.ntmps122;go_wp2_with fail;refine (bT _ _ _).mono ?_;rintro e w1 ⟨rfl,rfl⟩;rw [HE.out,HL.out];go_wp2_with fail
    all_goals first
     | (exfalso;omega)
     | (go_ret2;exact ⟨aw S.out.symm T.out.symm,by (repeat' exact bel)⟩)
theorem ap.set2a {w:World} {B:Nat} {a b c:Value} {t:TypeId} (h:ap w B #[a,b,c] t) (u:Value):ap (w.setCell ⟨B,0,none⟩ u) B #[u,b,c] t:=by
 unfold ap at h ⊢;simp [World.setCell,Array.getElem?_modify,h]
theorem ap.set2b {w:World} {B:Nat} {a b c:Value} {t:TypeId} (h:ap w B #[a,b,c] t) (u:Value):ap (w.setCell ⟨B,1,none⟩ u) B #[a,u,c] t:=by
 unfold ap at h ⊢;simp [World.setCell,Array.getElem?_modify,h]
theorem ap.set2c {w:World} {B:Nat} {a b c:Value} {t:TypeId} (h:ap w B #[a,b,c] t) (u:Value):ap (w.setCell ⟨B,2,none⟩ u) B #[a,b,u] t:=by
 unfold ap at h ⊢;simp [World.setCell,Array.getElem?_modify,h]
theorem ap.fz3 {w:World} {B:Nat} {f:Array Value} {t:TypeId} (h:ap w B f t) (i:Nat):w.frozen? ⟨B,i,none⟩=false:=by simp [World.frozen?,show w.heap[B]?=_ from h]
def nW (B:Nat) (y m:Int) (f w:World):Prop:=ap w B #[.int .i64 0,.int .i64 0,.int .i64 0] 135∧ap w (B+1) #[y,m,.int .i64 1] 135∧Below B f w
theorem nW.sety {B:Nat} {y m:Int} {f w:World} (h:nW B y m f w) (z:Int):nW B z m f (w.setCell ⟨B+1,0,none⟩ (.int .i64 z)):=⟨h.1.far ac _,h.2.1.set2a _,h.2.2.setCell ac _⟩
theorem nW.setm {B:Nat} {y m:Int} {f w:World} (h:nW B y m f w) (z:Int):nW B y z f (w.setCell ⟨B+1,1,none⟩ (.int .i64 z)):=⟨h.1.far ac _,h.2.1.set2b _,h.2.2.setCell ac _⟩
theorem nW.facts {B:Nat} {y m:Int} {f w:World} (h:nW B y m f w):(w.cell? ⟨B+1,0,none⟩=some (.int .i64 y)∧w.cell? ⟨B+1,1,none⟩=some (.int .i64 m)∧w.cell? ⟨B+1,2,none⟩=some (.int .i64 1))∧(w.frozen? ⟨B+1,0,none⟩=false∧w.frozen? ⟨B+1,1,none⟩=false∧w.frozen? ⟨B+1,2,none⟩=false) ∧
  (w.cell? ⟨B,0,none⟩=some (.int .i64 0)∧w.cell? ⟨B,1,none⟩=some (.int .i64 0)∧w.cell? ⟨B,2,none⟩=some (.int .i64 0))∧(w.frozen? ⟨B,0,none⟩=false∧w.frozen? ⟨B,1,none⟩=false∧w.frozen? ⟨B,2,none⟩=false):=
 ⟨⟨h.2.1.cell 0,h.2.1.cell 1,h.2.1.cell 2⟩,⟨h.2.1.fz3 0,h.2.1.fz3 1,h.2.1.fz3 2⟩,⟨h.1.cell 0,h.1.cell 1,h.1.cell 2⟩,⟨h.1.fz3 0,h.1.fz3 1,h.1.fz3 2⟩⟩
theorem nW.lt {B:Nat} {y m:Int} {f w:World} (h:nW B y m f w):B+1<w.heap.size:=h.2.1.lt
theorem zT {f:Array Value} {W:World} {B:Nat} {o E F e:Int} (J:f[2]?=some (.pointer (some ⟨B,0,none⟩))) (O:f[3]?=some (.int .i64 e))
  (h:ap W B #[o,E,F] 135) :
  (results Tryz.f159 f).run Tryz.prog W=.ok (.tuple #[.agg #[o,E,F],e]) W:=by
 have G:=h.cell 0;have H:=h.cell 1;have I:=h.cell 2;simp at G H I;simp [results,Tryz.results159,go_sem,J,O,G,H,I]
theorem Df (day:Int) (w:World) (h:cH day=false) :
  Calls Tryz.prog 159 #[day] w fun e o=>e=.returned (.tuple #[.agg #[.int .i64 0,.int .i64 0,.int .i64 0],.int .i64 4])∧Below w w o:=by
 rcases (show day<0∨(0≤day∧3068036<day) by simp [cH] at h;omega) with f | ⟨f,E⟩
 all_goals
  clear h;go_enter Tryz.func159,Tryz.ntmps159;go_wp2_with fail
  all_goals first
   | (exfalso;omega)
   | (refine bodyPost_ret (v:=.tuple #[.agg #[.int .i64 0,.int .i64 0,.int .i64 0],.int .i64 4]) (zT rfl rfl (ap.new w #[.int .i64 0,.int .i64 0,.int .i64 0] 135)) rfl ⟨rfl,by (repeat' exact bel)⟩)
theorem mW (day:Int) (w:World) (h:cH day=true) :
    Calls Tryz.prog 159 #[day] w fun e w'=>e=.returned (.tuple #[.agg #[dL day,jU day,wU day],.int .i64 0])∧Below w w w':=by
  have hd:0≤day∧day<3068037:=by simpa [cH] using h
  have aq:=hide (fun z (h1:1600≤z) (h2:z≤10000)=>iI z h1 h2);have bp:=hide rQ;have bt:=hide pV;have bb:=hide ep;have ay:=hide CB;have al:=hide jX;have bl:=hide (fun y m d (h1:dc y m d=true) (h2:jl y m d=day)=>(show dL day=y∧jU day=m∧wU day=d by rw [← h2];exact zQ h1));clear h;go_enter Tryz.func159,Tryz.ntmps159;go_wp2_with fail
  all_goals first
    | (exfalso;omega)
    | skip
  go_loopw [0] (fun V wr=>∃ z:Int,V=.int .i64 (day-aV z)∧1600≤z∧z≤9999∧(z-1600) % 400=0∧aV z≤day∧nW w.heap.size z 1 w wr) (fun V _=>(intOf V).toNat)
  case atStart =>
    refine ⟨1600,by rw [mf,Int.sub_zero],by omega,by omega,by omega,by rw [mf];omega,?_,?_,?_⟩
    · exact (ap.new w _ _).alloc _
    · simpa using ap.new (w.alloc (.cells #[.int .i64 0,.int .i64 0,.int .i64 0] 135)) #[.int .i64 1600,.int .i64 1,.int .i64 1] 135
    · (repeat' exact bel)
  case round =>
    obtain ⟨z,rfl,E,ab,ba,J,T⟩:=hrel;have F:=hide T;have H:=T.lt;clear T;obtain ⟨⟨k0,k1,k2⟩,⟨f0,f1,f2⟩,_,_⟩:=F.out.facts;have U:=aq.out z E om;by_cases f:146097≤day-aV z
    · have hN:=bp.out z E ba
      have O:z+400≤9999:=by
        rcases Int.lt_or_le 9999 (z+400) with O | O
        · exfalso
          obtain rfl:z=9600:=om;have e:=ay.out;have e2:aV (9600+400)=aV 10000:=rfl;omega
        · exact O
      have HN:=hide hN;obtain ⟨Y,R⟩:∃ Y,aV z=Y:=⟨_,rfl⟩;rw [R] at HN U f J;rw [R];clear R hN;go_wp2
      all_goals first
        | (exfalso;omega)
        | skip
      go_roundw
      case rel=>exact ⟨z+400,by rw [HN.out];congr 1;omega,by omega,O,by omega,by rw [HN.out];omega,F.out.sety _⟩
      case measure=>simp [intOf];omega
    · clear k0 k1 k2 f0 f1 f2
      go_wp2_with fail
      all_goals first
        | (exfalso;omega)
        | skip
      go_loopw [0] (fun V wr=>∃ z:Int,V=.int .i64 (day-aV z)∧1600≤z∧z≤9999∧aV z≤day∧nW w.heap.size z 1 w wr) (fun V _=>(intOf V).toNat)
      case atStart=>exact ⟨z,rfl,E,ab,J,F.out⟩
      case round =>
        clear U f ba J H F E ab;obtain ⟨z,rfl,E,ab,J,T⟩:=hrel;have F:=hide T;have H:=T.lt;clear T;obtain ⟨⟨k0,k1,k2⟩,⟨f0,f1,f2⟩,_,_⟩:=F.out.facts;have U:=aq.out z E om;have a8:=zh z;have hN:=bt.out z E ab;by_cases f:je z≤day-aV z
        · have O : z + 1 ≤ 9999 := by
            rcases Int.lt_or_le 9999 (z+1) with O | O
            · exfalso
              obtain rfl:z=9999:=om;have e:=ay.out;have e2:aV (9999+1)=aV 10000:=rfl;omega
            · exact O
          have HN:=hide hN;obtain ⟨Y,R⟩:∃ Y,aV z=Y:=⟨_,rfl⟩;obtain ⟨G,hG⟩:∃ Y,je z=Y:=⟨_,rfl⟩;have HG:=hide hG;rw [R,hG] at HN f;rw [R] at U J;rw [hG] at a8;rw [R];clear R hG hN;go_wp2_with fail;refine (lw _ _).mono ?_;rintro e w2 ⟨rfl,rfl⟩;rw [HG.out];go_wp2_with fail
          all_goals first
            | (exfalso;omega)
            | skip
          refine (lw _ _).mono ?_;rintro e w2 ⟨rfl,rfl⟩;rw [HG.out];go_wp2
          all_goals first
            | (exfalso;omega)
            | skip
          go_roundw
          case rel=>exact ⟨z+1,by rw [HN.out];congr 1;omega,by omega,O,by rw [HN.out];omega,F.out.sety _⟩
          case measure=>simp [intOf];omega
        · have aB:=gK z
          have a0:=lB z;have o:je z=aK z 13:=by rw [aB,je];split <;> rfl
          rw [o] at f;have I:day-aV z<aK z 13:=om;have S:=hide (fun j (h1:1≤j) (h2:j≤12)=>(show aP z j=true∧dI z j=0∧bS z j=aK z (j+1)-aK z j from by
            have ht:aP z j=true:=by simp [aP];omega
            exact ⟨ht,by simp [dI,ht],by simp [bS,ht]⟩))
          have ah:=hide (fun j d=>(show jl z j d=aV z+aK z j+d-1 from rfl));have b1:=al.out z 1;have a6:=(S.out 1 om om).2.1;obtain ⟨Y,R⟩:∃ Y,aV z=Y:=⟨_,rfl⟩;rw [R] at U J I ah;rw [R];have bh:=hide I;have bd:=hide a6;have bw:day-Y<je z:=by rw [o];exact I
          obtain ⟨G,hG⟩:∃ Y,je z=Y:=⟨_,rfl⟩;have HG:=hide hG;rw [hG] at bw a8;clear aB o f R hN a6 I hG;go_wp2_with fail;refine (lw _ _).mono ?_;rintro e w2 ⟨rfl,rfl⟩;rw [HG.out];go_wp2_with fail
          all_goals first
            | (exfalso;omega)
            | skip
          refine (bT _ _ _).mono ?_;rintro e w2 ⟨rfl,rfl⟩;rw [bd.out];clear k0 k1 k2 f0 f1 f2;go_wp2_with fail;go_loopw [0,5] (fun V sn wr=>∃ j:Int,V=.int .i64 (day-Y-aK z j)∧sn=.int .i64 (bS z j)∧1≤j∧j≤12∧aK z j≤day-Y∧nW w.heap.size z j w wr) (fun V _ _=>(intOf V).toNat)
          case atStart=>exact ⟨1,by rw [a0,Int.sub_zero],rfl,by omega,by omega,by rw [a0];omega,F.out⟩
          case round =>
            clear H F;obtain ⟨j,rfl,rfl,bx,bX,a4,T⟩:=hrel;have F:=hide T;have H:=T.lt;clear T;obtain ⟨⟨k0,k1,k2⟩,⟨f0,f1,f2⟩,⟨r0,r1,r2⟩,⟨e0,e1,e2⟩⟩:=F.out.facts;have a1:=bb.out z j;have a5:=al.out z j;obtain ⟨t1,t2,t3⟩:=S.out j bx bX;have a7:=nf z j t1;by_cases f:bS z j≤day-Y-aK z j
            · have aA : j + 1 ≤ 12 := by
                rcases Int.lt_or_le 12 (j+1) with O | O
                · exfalso
                  obtain rfl:j=12:=om;have e:=bh.out;have e2:aK z (12+1)=aK z 13:=rfl;omega
                · exact O
              have aF:aK z (j+1)=aK z j+bS z j:=om;have ad:=hide aF;have bc:=hide (S.out (j+1) om aA).2.1;obtain ⟨A,W⟩:∃ A,aK z j=A:=⟨_,rfl⟩;obtain ⟨L,hL⟩:∃ A,bS z j=A:=⟨_,rfl⟩;rw [W,hL] at ad f;rw [W] at a1 a4;rw [hL] at a5 a7;rw [W,hL];clear aF W hL t1 t2 t3;go_wp2_with fail
              all_goals first
                | (exfalso;omega)
                | skip
              refine (bT _ _ _).mono ?_;rintro e w2 ⟨rfl,rfl⟩;rw [bc.out];go_wp2
              all_goals first
                | (exfalso;omega)
                | skip
              go_roundw
              case rel=>exact ⟨j+1,by rw [ad.out];congr 1;omega,rfl,by omega,aA,by rw [ad.out];omega,F.out.setm _⟩
              case measure=>simp [intOf];omega
            · have a3:=ah.out j (1+(day-Y-aK z j))
              have a2:dc z j (1+(day-Y-aK z j))=true:=by simp [dc,t1];omega
              have HO:=hide (bl.out z j _ a2 (by rw [a3];omega));obtain ⟨A,W⟩:∃ A,aK z j=A:=⟨_,rfl⟩;rw [W] at HO;rw [W] at a1 a4;obtain ⟨L,hL⟩:∃ A,bS z j=A:=⟨_,rfl⟩;rw [W,hL] at f;rw [hL] at a5 a7;rw [W,hL];clear a3 a2 t1 t2 t3 W hL;go_wp2
              all_goals first
                | (exfalso;omega)
                | skip
              rw [HO.out.1,HO.out.2.1,HO.out.2.2];have g1:=((((F.out.1.far (p:=⟨w+1,2,none⟩) ac (.int .i64 (1+(day-Y-A)))).set2a (.int .i64 z)).set2b (.int .i64 j)).set2c (.int .i64 (1+(day-Y-A))));have b0:=F.out.2.2;exact bodyPost_ret (v:=.tuple #[.agg #[z,.int .i64 j,.int .i64 (1+(day-Y-A))],.int .i64 0]) (zT rfl rfl g1) rfl ⟨rfl,by (repeat' exact bel)⟩
end
end Go.Proofs.YtjhhmeoibfdcmaaGreat
