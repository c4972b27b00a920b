/- The statement TopRoll: for every input the law answers true, and its arguments read behind the call as they read before. Condition: the listed variables of the library hold what the library lays (the card ties them to the text). -/
import Derived.BigQuiet
import Derived.Deep.RegionHeld3
import Derived.Lay
import Derived.SevenTiedAt
import Derived.Test.YtpebkobmhhnojaaGreatDoorCards
import Derived.Test.YtpebkobmhhnojaaGreatDoorTie
import Derived.Test.YtpebkobmhhnojaaGreatDoorTp36
import Derived.Test.YtpebkobmhhnojaaGreatDoorTp45
import Derived.Test.YtpebkobmhhnojaaGreatDoorTp46
import Derived.Test.YtpebkobmhhnojaaGreatDoorTp50
set_option linter.unusedSimpArgs false
set_option linter.unusedVariables false
set_option maxRecDepth 100000
set_option maxHeartbeats 12800000
namespace Go.Proofs.YtpebkobmhhnojaaGreatDoor
section
open Go.RowKit Qd
theorem bQ.al {w:World} (h:bQ w) (o:Obj):bQ (w.alloc o):=h.call ((Below.refl _ _).alloc (Nat.le_refl _) _)
@[go_sem high] theorem Fi (a b c d f h o E:Int) (w:World):(binOp .neq 59 (.agg #[a,b,c,d]) (.agg #[f,h,o,E])).run Tryz.prog w=.ok (.bool (!Fc a b c d f h o E)) w:=by
 rw [run_neq_struct,uw 9997];rfl
def m5 (c:aC) (M f:List (Un × Int)) (o h B:Nat) (E w:World):Prop:=bR w B c∧B<w.heap.size∧bS w o M∧bS w h f∧Below B E w
theorem m5.call {c:aC} {M o:List (Un × Int)} {F E B:Nat} {G w w':World} (h:m5 c M o F E B G w) (f:Below w w w'):m5 c M o F E B G w':=
 ⟨az f h.2.1 h.1,Nat.lt_of_lt_of_le h.2.1 f.size,h.2.2.1.call f,h.2.2.2.1.call f,h.2.2.2.2.trans (f.mono (Nat.le_of_lt h.2.1))⟩
theorem m5.s {c:aC} {M o:List (Un × Int)} {f E B:Nat} {G w:World} (h:m5 c M o f E B G w) {k:Nat} {x:Un × Int} (F:M[k]?=some x) :
  bR w B c∧(w.cell? ⟨f,k*4,none⟩=some (.int .i64 x.1.lv)∧w.cell? ⟨f,k*4+1,none⟩=some (.int .i64 x.1.yr)∧w.cell? ⟨f,k*4+2,none⟩=some (.int .i64 x.1.ix)):=by
 obtain ⟨a,b,d,_⟩:=h.2.2.1.cell F;exact ⟨h.1,a,b,d⟩
def Fg (a b d:Int) (m:Nat) (E:World) (h o:Value) (w:World):Prop:=∃ f:Nat,h=.pointer (some ⟨f,0,none⟩)∧o=.int .i64 0∧m≤f∧ax w f #[a,b,d] 33∧Below m E w
theorem grp_in {f:Nat→Int} (h:∀ j,bE (f j)) (g:Nat→Nat) (k:Nat):∀ m,∀ y∈gB g f k m,bE y
 | 0=>by simp [gB]
 | m+1=>by
  intro y o;unfold gB at o
  split at o
  ·rcases List.mem_append.1 o with o | o
   ·exact grp_in h g k m y o
   ·simp at o;subst o;exact h _
  ·exact grp_in h g k m y o
theorem cell_2nd (w:World) (o:Obj) (v:Value) (t:TypeId):((w.alloc o).alloc (.cells #[v] t)).cell? ⟨w+1,0,none⟩=some v:=by
 have h:=(ax.new (w.alloc o) #[v] t).cell 0;rw [show (w.alloc o).heap.size=w.heap.size+1 by simp] at h;exact h
theorem fK (w:World) (f:Array Value) (t:TypeId):ax ((w.alloc (.cells f t)).drew) w.heap.size f t:=ax.new w f t
theorem fL (w:World) (f:Array Value) (t:TypeId):ax (w.drew.alloc (.cells f t)) w.heap.size f t:=ax.new w.drew f t
theorem A9 (c:aC) (hn:c.name.size≤9223372036854775807) (y:Int) (v1 v2:Value) (P:List Po) (A:List Ac) (lv fine:Int) (w:World) (hL:bQ w) (hP:eu w v1 P) (hA:iA w v2 A) (hp:∀ x∈P,D5 x) (ha:∀ x∈A,yY x) (g4:P.length≤9223372036854775807) (g5:A.length≤9223372036854775807) :
    Calls Tryz.prog 5 #[aI c,y,.agg #[v1,v2],lv,fine] w fun e w'=>e=.returned (.bool true)∧Below w w w':=by
  have HP:=hide hP;have HA:=hide hA;have HL:=hide hL;have HW:=hide (And.intro (fun x h=>(hp x h).2) (fun x h=>(ha x h).2.2));have H0:=hide (mT c v1 v2 w);clear hp ha hL;obtain ⟨gv,fv,rfl,_⟩:=hP;obtain ⟨fr,eb,rfl,_⟩:=hA;simp only [aI];go_enter Tryz.func5,Tryz.ntmps5;go_wp2_with fail;refine (dH _ ((HL.out.al _).al _)).mono ?_;rintro e w1 ⟨rfl,f1⟩;have o:=hide (H0.out.call f1);clear f1;obtain ⟨⟨q0,q1,q2,q3,q4,q5,q6,q7,q8,q9,O,U,V,Y⟩,bt,d0,E⟩:=o.out;obtain ⟨⟨k0,k1⟩,_⟩:=ec bt;clear bt;have d2:w.heap.size<w1.heap.size:=om;go_wp2_with fail;refine (BL c P A _ _ _ (HP.out.call o.out.2.2.2) (HA.out.call o.out.2.2.2) hn g4 g5).mono ?_;rintro e w2 ⟨rfl,f2⟩;have H:=hide (o.out.call f2);clear f2 q0 q1 q2 q3 q4 q5 q6 q7 q8 q9 O U V Y k0 k1 d0 E d2;cases hF:k6 c P A
  · have E:=H.out.2.2.2
    go_wp2;go_ret;exact ⟨rfl,E⟩
  obtain ⟨hh,_,_,gT⟩:=ue hF;have fb:=hide (FL c P A (.slice fr A.length eb) hF HW.out.1 HW.out.2);have e6:c.name.size≤1000:=om;clear hF gT;by_cases hr:1≤lv∧fine≤5∧lv≤fine
  rotate_left
  · have E:=H.out.2.2.2
    go_wp2
    all_goals first
      | (exfalso;omega)
      | (go_ret;exact ⟨rfl,E⟩)
  obtain ⟨e7,hv,f9⟩:=hr;have ho:decide (fine<lv)=false:=ag;have d4:=hide (fun l W (h1:eu W (.slice gv P.length fv) P) (h2:iA W (.slice fr A.length eb) A)=>vM c l y P A (ZA c A) _ _ W e6 h1 h2 fb.out);have fn:=hide (fun u W=>xP c u lv W e6);have em:=hide (fun h f hf=>zL (c:=c) (y:=y) (lv:=lv) (fine:=fine) (P:=P) (A:=A) (Z:=ZA c A) h e7 f9 f hf);have es:=hide (fun (h:dw c fine y P A (ZA c A)=0) k hk=>t8 (c:=c) (y:=y) (lv:=lv) (fine:=fine) (lj h).1 e7 f9 k hk);have eD:=hide (fun (j:Nat) h=>kS (c:=c) (lv:=fine) (y:=y) (P:=P) (A:=A) (Z:=ZA c A) (j:=j) h);have eE:=hide (fun (j:Nat) h=>kS (c:=c) (lv:=lv) (y:=y) (P:=P) (A:=A) (Z:=ZA c A) (j:=j) h);have ek:=hide (fun (h:dw c fine y P A (ZA c A)=0)=>Dw (lj h).1);obtain ⟨M,hM⟩:∃ x,fO c fine y P A (ZA c A)=x:=⟨_,rfl⟩;obtain ⟨Lq,c8⟩:∃ x,fO c lv y P A (ZA c A)=x:=⟨_,rfl⟩;have HM:=hide hM;have fi:=hide c8;simp only [aI,aZ] at d4 fn;clear hM c8;have eB:=hide (d4.out lv);have b3:=hide (d4.out fine);rw [HM.out] at b3 eD;rw [fi.out] at eB eE;clear d4;obtain ⟨⟨q0,q1,q2,q3,q4,q5,q6,q7,q8,q9,O,U,V,Y⟩,bt,d0,E⟩:=H.out;obtain ⟨⟨k0,k1⟩,_⟩:=ec bt;clear bt;have d2:w.heap.size<w2.heap.size:=om;go_wp2_with fail
  all_goals first
    | (exfalso;omega)
    | skip
  refine (eB.out _ (HP.out.call E) (HA.out.call E)).mono ?_;rintro e w3 ⟨⟨vl,rfl,gl,go⟩,f3⟩;have J:=hide (H.out.call f3);have HV:=hide (And.intro gl go);clear gl go f3 q0 q1 q2 q3 q4 q5 q6 q7 q8 q9 O U V Y k0 k1 d0 E d2;obtain ⟨⟨q0,q1,q2,q3,q4,q5,q6,q7,q8,q9,O,U,V,Y⟩,bt,d0,E⟩:=J.out;obtain ⟨⟨k0,k1⟩,_⟩:=ec bt;clear bt;have d2:w.heap.size<w3.heap.size:=om;go_wp2_with fail;refine (b3.out _ (HP.out.call E) (HA.out.call E)).mono ?_;rintro e w4 ⟨⟨vm,rfl,gc,gf⟩,F⟩;have bh:=hide (J.out.call F);have aq:=hide (And.intro gc gf);have I:=hide F;clear gc gf F q0 q1 q2 q3 q4 q5 q6 q7 q8 q9 O U V Y k0 k1 d0 E d2 eB b3;have E:=bh.out.2.2.2;by_cases a6:dw c fine y P A (ZA c A)=0
  rotate_left
  · obtain rfl:=aq.out.2 a6
    obtain ⟨E2,fz⟩:∃ x,dw c fine y P A (ZA c A)=x:=⟨_,rfl⟩;rw [fz] at a6 ⊢;have hb:(E2 != 0)=true:=by simpa using a6
    clear a6 fz em es ek;go_wp2;go_ret;exact ⟨rfl,E⟩
  obtain ⟨gm,rfl,dY,cr⟩:=aq.out.1 a6;obtain ⟨f,d5⟩:∃ f:Nat→Int,f=fun k:Nat=>TV c P A (ZA c A) ⟨fine,y,(k:Int)+1⟩:=⟨_,rfl⟩
  have cx:=hide (em.out a6 f d5);have bd:=hide (es.out a6);have gP:=ek.out a6;have fd:=hide (show ∀ j,bE (f j) from fun j=>by rw [d5];exact Gt _ _ _ _ _);have ad:=hide (show ∀ j:Nat,j<aM c y fine→M[j]?=some (⟨fine,y,(j:Int)+1⟩,f j) from fun j hj=>by rw [d5];exact eD.out j hj);obtain ⟨g,hg⟩:∃ x,gK c y lv fine=x:=⟨_,rfl⟩;obtain ⟨n,ea⟩:∃ x,aM c y fine=x:=⟨_,rfl⟩;rw [hg,ea] at cx;rw [hg] at bd;rw [ea] at bd ad gP;have fk:=hide ea;have gs:=hide a6;rw [a6];clear d5 em es ek eD hg ea aq a6 o H J fb;have HC:=hide (show ∀ k:Nat,k<n→∀ W,Calls Tryz.prog 11 #[aI c,.agg #[fine,y,.int .i64 ((k:Int)+1)],lv] W fun e W'=>e=.returned (.tuple #[.agg #[lv,y,.int .i64 ((g k:Int)+1)],.int .i64 0])∧Below W W W' from fun k hk W=>by
    have h:=xP c ⟨fine,y,(k:Int)+1⟩ lv W e6;rw [(bd.out k hk).1,(bd.out k hk).2.1] at h;exact h)
  simp only [aI] at HC;clear fn;rcases cx.out.2 with ⟨b6,cs⟩ | ⟨b6,cs⟩
  rotate_left
  · obtain rfl:=HV.out.2 (by rw [b6];omega)
    rw [b6];clear fi eE HV Lq;obtain ⟨Lq,c8⟩:∃ x,x=M:=⟨_,rfl⟩;obtain ⟨gq,f7⟩:∃ x,x=gm:=⟨_,rfl⟩;have eF:=hide (show m5 c M Lq gm gq w.heap.size w w4 from ⟨bh.out.1,by have:=bh.out.2.2.1;omega,dY,by rw [c8,f7];exact dY,bh.out.2.2.2⟩);have eA:=hide cs;clear b6 cs dY cr I E bh c8 f7;rw [fk.out]
    as_aux_lemma =>
      go_wp2_with fail;go_loopw [15,70] (fun e9 fa wr=>∃ i:Nat,fa=.int .i64 i∧e9=.bool (rD g f n i)∧i≤n∧m5 c M Lq gm gq w.heap.size w wr) (fun _ s _=>(200-intOf s).toNat)
      case atStart=>exact ⟨0,rfl,rfl,by omega,eF.out⟩
      case round =>
        obtain ⟨i,rfl,rfl,hi,hS⟩:=hrel;have HS:=hide hS;clear hS;by_cases aB:i<n
        rotate_left
        · obtain rfl:i=n:=om
          rw [eA.out];have E:=HS.out.2.2.2.2;go_wp2;go_ret;exact ⟨rfl,E⟩
        obtain ⟨W0,eS⟩:∃ W0,W0=wr:=⟨_,rfl⟩;subst eS;obtain ⟨_,_,f5⟩:=bd.out i aB;obtain ⟨a0,a1,a2⟩:=(HS.out.s (ad.out i aB)).2;simp only at a0 a1 a2;obtain ⟨q0,q1,q2,q3,q4,q5,q6,q7,q8,q9,O,U,V,Y⟩:=HS.out.1;have cp:=HS.out.2.1;have cr:=HS.out.2.2.1.lt;have g1:(0:Int)≤(i:Int):=om;have g2:(i:Int)<(n:Int):=om;go_upto_region 13 with fail;go_cut [17,18] (fun bb bc wx=>Fg lv y ((g i:Int)+1) W0.heap.size W0 bb bc wx)
        case first =>
          as_aux_lemma =>
            go_region_held3 (fun w'=>(w'.cell? ⟨w,0,none⟩=some (.string c.name)∧w'.cell? ⟨w,1,none⟩=some (.int .i64 c.kind)∧w'.cell? ⟨w,2,none⟩=some (.int .i64 c.day)∧w'.cell? ⟨w,3,none⟩=some (.int .i64 c.month)∧w'.cell? ⟨w,4,none⟩=some (.int .i64 c.shift)∧w'.cell? ⟨w,5,none⟩=some (.int .i64 c.shape)∧w'.cell? ⟨w,6,none⟩=some (.int .i64 c.p0)∧w'.cell? ⟨w,7,none⟩=some (.int .i64 c.p1)∧w'.cell? ⟨w,8,none⟩=some (.int .i64 c.p2)∧w'.cell? ⟨w,9,none⟩=some (.int .i64 c.cycle)∧w'.cell? ⟨w,10,none⟩=some (.int .i64 c.extra)∧w'.cell? ⟨w,11,none⟩=some (.int .i64 c.first)∧w'.cell? ⟨w,12,none⟩=some (.int .i64 c.last)∧w'.cell? ⟨w,13,none⟩=some (.int .i64 c.policy))∧(w'.cell? ⟨gm,i*4,none⟩=some (.int .i64 fine)∧w'.cell? ⟨gm,i*4+1,none⟩=some (.int .i64 y)∧w'.cell? ⟨gm,i*4+2,none⟩=some (.int .i64 ((i:Int)+1)))) (exact (HS.out.call ar).s (ad.out i aB))
              (first | (go_at_call 11;refine (HC.out i aB _).mono ?_;rintro e w4 ⟨rfl,F⟩;have ac:W0.heap.size≤w4.heap.size:=(by have:=F.size;simp at this;omega);have I:=hide (show Below W0 W0 w4 by (repeat' exact bel));(first | (have k5:=ax.call (fK W0 #[.int .i64 0,.int .i64 0,.int .i64 0] 33) F;obtain ⟨⟨s0,s1,s2⟩,t0,t1,t2⟩:=k5.three) | (have k5:=ax.call (fL W0 #[.int .i64 0,.int .i64 0,.int .i64 0] 33) F;obtain ⟨⟨s0,s1,s2⟩,t0,t1,t2⟩:=k5.three) | skip)) | fail)
            all_goals
              go_wp2_with fail;go_meet
              first
                | exact ⟨_,rfl,rfl,ac,ax.new w4 _ _,I.out.alloc ac _⟩
                | exact ⟨_,rfl,rfl,Nat.le_refl _,k5.set123 _ _ _,((I.out.setCell (Nat.le_refl _) _).setCell (Nat.le_refl _) _).setCell (Nat.le_refl _) _⟩
        case rest =>
          obtain ⟨Bv,rfl,rfl,gw,c9,c5⟩:=hcut;obtain ⟨W1,eU⟩:∃ W1,W1=wc:=⟨_,rfl⟩;subst eU;have o:=hide (HS.out.call c5);have a5:=hide c9;clear q0 q1 q2 q3 q4 q5 q6 q7 q8 q9 O U V Y;clear c5 c9 a0 a1 a2 cp cr;have bw:=o.out.2.2.1.lt;have bx:=o.out.2.1;cases aa:i6 g i
          · as_aux_lemma =>
              have b9:0<i∧g (i-1)=g i:=by
                have h1:¬ i=0∧g (i-1)=g i:=by simpa [i6] using aa
                exact ⟨by omega,h1.2⟩
              obtain ⟨j,hj⟩:∃ j,i=j+1:=⟨i-1,by omega⟩;have hm:(i:Int)-1=(j:Int):=om;have G:j<n:=om;have bp:IntKind.i64.wrap (j:Int)=(j:Int):=IntWalk.i64_in _ om;have d1:IntKind.i64.wrap ((i:Int)-1)=(j:Int):=by rw [hm];exact bp
              have ab:g j=g i:=by have:=b9.2;rwa [hj,Nat.add_sub_cancel,← hj] at this
              have el:=hide ab;have ao:=hide (show rD g f n (i+1)=rD g f n i by rw [rD,aa];simp);have a8:0<i:=b9.1;have dd:decide (0<i)=true:=by simpa using a8
              have cb:(0:Int)≤(j:Int):=om;have cc:(j:Int)<(n:Int):=om;clear b9 ab aa hj;obtain ⟨q0,q1,q2,q3,q4,q5,q6,q7,q8,q9,O,U,V,Y⟩:=o.out.1;obtain ⟨b0,b1,b2⟩:=(o.out.s (ad.out j G)).2;simp only at b0 b1 b2;go_upto_region 17 with fail;go_cut [19,20] (fun bb bc wx=>Fg lv y ((g j:Int)+1) W1.heap.size W1 bb bc wx)
              case first =>
                as_aux_lemma =>
                  go_region_held3 (fun w'=>(w'.cell? ⟨w,0,none⟩=some (.string c.name)∧w'.cell? ⟨w,1,none⟩=some (.int .i64 c.kind)∧w'.cell? ⟨w,2,none⟩=some (.int .i64 c.day)∧w'.cell? ⟨w,3,none⟩=some (.int .i64 c.month)∧w'.cell? ⟨w,4,none⟩=some (.int .i64 c.shift)∧w'.cell? ⟨w,5,none⟩=some (.int .i64 c.shape)∧w'.cell? ⟨w,6,none⟩=some (.int .i64 c.p0)∧w'.cell? ⟨w,7,none⟩=some (.int .i64 c.p1)∧w'.cell? ⟨w,8,none⟩=some (.int .i64 c.p2)∧w'.cell? ⟨w,9,none⟩=some (.int .i64 c.cycle)∧w'.cell? ⟨w,10,none⟩=some (.int .i64 c.extra)∧w'.cell? ⟨w,11,none⟩=some (.int .i64 c.first)∧w'.cell? ⟨w,12,none⟩=some (.int .i64 c.last)∧w'.cell? ⟨w,13,none⟩=some (.int .i64 c.policy))∧(w'.cell? ⟨gm,j*4,none⟩=some (.int .i64 fine)∧w'.cell? ⟨gm,j*4+1,none⟩=some (.int .i64 y)∧w'.cell? ⟨gm,j*4+2,none⟩=some (.int .i64 ((j:Int)+1)))) (exact (o.out.call ar).s (ad.out j G))
                    (first | (go_at_call 11;refine (HC.out j G _).mono ?_;rintro e w4 ⟨rfl,F⟩;have ac:W1.heap.size≤w4.heap.size:=(by have:=F.size;simp at this;omega);have I:=hide (show Below W1 W1 w4 by (repeat' exact bel));(first | (have k5:=ax.call (fK W1 #[.int .i64 0,.int .i64 0,.int .i64 0] 33) F;obtain ⟨⟨s0,s1,s2⟩,t0,t1,t2⟩:=k5.three) | (have k5:=ax.call (fL W1 #[.int .i64 0,.int .i64 0,.int .i64 0] 33) F;obtain ⟨⟨s0,s1,s2⟩,t0,t1,t2⟩:=k5.three) | skip)) | fail)
                  all_goals
                    go_wp2_with fail;go_meet
                    first
                      | exact ⟨_,rfl,rfl,ac,ax.new w4 _ _,I.out.alloc ac _⟩
                      | exact ⟨_,rfl,rfl,Nat.le_refl _,k5.set123 _ _ _,((I.out.setCell (Nat.le_refl _) _).setCell (Nat.le_refl _) _).setCell (Nat.le_refl _) _⟩
              case rest =>
                obtain ⟨Bw,rfl,rfl,c6,a7,ah⟩:=hcut;have H:=hide (o.out.call ah);obtain ⟨⟨c0,c1,c2⟩,_⟩:=a7.three;obtain ⟨⟨e0,e1,e2⟩,_⟩:=(a5.out.call ah).three;have bl:=AE (a:=lv) (b:=y) (c:=(g j:Int)+1) (x:=lv) (y:=y) (z:=(g i:Int)+1) rfl rfl (by rw [el.out]);clear q0 q1 q2 q3 q4 q5 q6 q7 q8 q9 O U V Y;clear ah a7 b0 b1 b2;go_wp2;go_roundw
                case rel=>exact ⟨i+1,by go_num,by rw [ao.out],by omega,H.out⟩
                case measure=>simp [intOf];omega
          rcases Nat.eq_zero_or_pos i with a8 | a8
          rotate_left
          case' inr =>
            have dd:decide (0<i)=true:=by simpa using a8
            obtain ⟨j,hj⟩:∃ j,i=j+1:=⟨i-1,by omega⟩;have hm:(i:Int)-1=(j:Int):=om;have G:j<n:=om;have bp:IntKind.i64.wrap (j:Int)=(j:Int):=IntWalk.i64_in _ om;have d1:IntKind.i64.wrap ((i:Int)-1)=(j:Int):=by rw [hm];exact bp
            have cy:=hide (show ¬ g j=g i by
              have h1:g (i-1)≠g i:=by
                have:=aa;simp [i6] at this;omega
              rwa [hj,Nat.add_sub_cancel,← hj] at h1)
            have cb:(0:Int)≤(j:Int):=om;have cc:(j:Int)<(n:Int):=om;clear hj;obtain ⟨q0,q1,q2,q3,q4,q5,q6,q7,q8,q9,O,U,V,Y⟩:=o.out.1;obtain ⟨b0,b1,b2⟩:=(o.out.s (ad.out j G)).2;simp only at b0 b1 b2;go_upto_region 17 with fail;go_cut [19,20] (fun bb bc wx=>Fg lv y ((g j:Int)+1) W1.heap.size W1 bb bc wx)
            case first =>
              as_aux_lemma =>
                go_region_held3 (fun w'=>(w'.cell? ⟨w,0,none⟩=some (.string c.name)∧w'.cell? ⟨w,1,none⟩=some (.int .i64 c.kind)∧w'.cell? ⟨w,2,none⟩=some (.int .i64 c.day)∧w'.cell? ⟨w,3,none⟩=some (.int .i64 c.month)∧w'.cell? ⟨w,4,none⟩=some (.int .i64 c.shift)∧w'.cell? ⟨w,5,none⟩=some (.int .i64 c.shape)∧w'.cell? ⟨w,6,none⟩=some (.int .i64 c.p0)∧w'.cell? ⟨w,7,none⟩=some (.int .i64 c.p1)∧w'.cell? ⟨w,8,none⟩=some (.int .i64 c.p2)∧w'.cell? ⟨w,9,none⟩=some (.int .i64 c.cycle)∧w'.cell? ⟨w,10,none⟩=some (.int .i64 c.extra)∧w'.cell? ⟨w,11,none⟩=some (.int .i64 c.first)∧w'.cell? ⟨w,12,none⟩=some (.int .i64 c.last)∧w'.cell? ⟨w,13,none⟩=some (.int .i64 c.policy))∧(w'.cell? ⟨gm,j*4,none⟩=some (.int .i64 fine)∧w'.cell? ⟨gm,j*4+1,none⟩=some (.int .i64 y)∧w'.cell? ⟨gm,j*4+2,none⟩=some (.int .i64 ((j:Int)+1)))) (exact (o.out.call ar).s (ad.out j G))
                  (first | (go_at_call 11;refine (HC.out j G _).mono ?_;rintro e w4 ⟨rfl,F⟩;have ac:W1.heap.size≤w4.heap.size:=(by have:=F.size;simp at this;omega);have I:=hide (show Below W1 W1 w4 by (repeat' exact bel));(first | (have k5:=ax.call (fK W1 #[.int .i64 0,.int .i64 0,.int .i64 0] 33) F;obtain ⟨⟨s0,s1,s2⟩,t0,t1,t2⟩:=k5.three) | (have k5:=ax.call (fL W1 #[.int .i64 0,.int .i64 0,.int .i64 0] 33) F;obtain ⟨⟨s0,s1,s2⟩,t0,t1,t2⟩:=k5.three) | skip)) | fail)
                all_goals
                  go_wp2_with fail;go_meet
                  first
                    | exact ⟨_,rfl,rfl,ac,ax.new w4 _ _,I.out.alloc ac _⟩
                    | exact ⟨_,rfl,rfl,Nat.le_refl _,k5.set123 _ _ _,((I.out.setCell (Nat.le_refl _) _).setCell (Nat.le_refl _) _).setCell (Nat.le_refl _) _⟩
            obtain ⟨Bw,rfl,rfl,c6,a7,ah⟩:=hcut;obtain ⟨W2,aA⟩:∃ W2,W2=wc:=⟨_,rfl⟩;subst aA;have H:=hide (o.out.call ah);have aq:=hide (a5.out.call ah);obtain ⟨⟨c0,c1,c2⟩,_⟩:=a7.three;obtain ⟨⟨e0,e1,e2⟩,_⟩:=aq.out.three;have bl:=yB (a:=lv) (b:=y) (c:=(g j:Int)+1) (x:=lv) (y:=y) (z:=(g i:Int)+1) (.inr (.inr (by have:=cy.out;omega)));have e5:¬ n-i=0:=om;clear q0 q1 q2 q3 q4 q5 q6 q7 q8 q9 O U V Y;clear ah a7 b0 b1 b2 o a5 bw bx HS;have dg:=H.out.2.2.1.lt;have dq:=H.out.2.1;go_wp2_with fail;clear bl c0 c1 c2 e0 e1 e2 d1 bp hm G cb cc cy c6
          case' inl =>
            have e4:i≤0:=om;have dd:decide (0<i)=false:=ag;clear a8;obtain ⟨W2,aA⟩:∃ W2,W2=W1:=⟨_,rfl⟩;have H:=hide (show m5 c M Lq gm gq w.heap.size w W2 by rw [aA];exact o.out);have aq:=hide (show ax W2 Bv #[lv,y,.int .i64 ((g i:Int)+1)] 33 by rw [aA];exact a5.out);rw [← aA];have e5:¬ n-i=0:=om;clear aA o a5 bw bx HS;have dg:=H.out.2.2.1.lt;have dq:=H.out.2.1;go_wp2_with fail;clear e4
          all_goals
            as_aux_lemma =>
              have gA:Bv<W2.heap.size:=aq.out.lt;go_loopw [21,111] (fun xB d3 wr=>∃ j:Nat,d3=.int .i64 j∧j≤n-i∧Hid (wr.ownsRow W2.heap.size 2 1 xB (gB g f i j).length (cd (gB g f i j))∧Below W2 W2 wr)) (fun _ s _=>(200-intOf s).toNat)
              case atStart=>exact ⟨0,rfl,Nat.zero_le _,hide ⟨World.ownsRow_nil _ _ _ _,Below.refl _ _⟩⟩
              case round =>
                obtain ⟨j,rfl,hj,HR⟩:=hrel;have e8:=HR.out.2.size;have J:=hide (H.out.call HR.out.2);have a4:=hide (aq.out.call HR.out.2);obtain ⟨W3,e3⟩:∃ W3,W3=wr:=⟨_,rfl⟩;subst e3;by_cases cp:j<n-i
                · obtain ⟨a0,a1,a2,a3⟩:=J.out.2.2.1.cell (ad.out (i+j) om)
                  rw [Nat.add_mul] at a0 a1 a2 a3;simp only at a0 a1 a2 a3;obtain ⟨q0,q1,q2,q3,q4,q5,q6,q7,q8,q9,O,U,V,Y⟩:=J.out.1;have f6:=J.out.2.2.1.lt;have f8:=J.out.2.1;have cb:(0:Int)≤(j:Int):=om;have cc:(j:Int)<(n:Int)-(i:Int):=om;have g3:(j:Int)<((n-i:Nat):Int):=om;have cv:=hide (HC.out (i+j) om);obtain ⟨N,hN⟩:∃ N,f (i+j)=N:=⟨_,rfl⟩;obtain ⟨K,hK⟩:∃ K:Int,((i+j:Nat):Int)+1=K:=⟨_,rfl⟩;rw [hN] at a3;rw [hK] at a2 cv;have cS:=hide hN;clear hN hK;go_wp2_with fail;refine (cv.out _).mono ?_;rintro e w5 ⟨rfl,b7⟩;have g6:W3.heap.size<w5.heap.size:=am b7;have b5:=hide (show Below W3 W3 w5 by (repeat' exact bel));have c3:=hide (a4.out.call b5.out);have bX:=hide (HR.out.2.trans (b5.out.mono e8));have b4:=hide (jO HR.out.1 b5.out);have x3:=((ax.new W3 #[fine,y,K,.int .i64 N] 59).call b7).cell 3;simp at x3;obtain ⟨v0,v1,v2⟩:=c3.out.three.1;have f4:Bv<w5.heap.size:=c3.out.lt;have gb:W2.heap.size≤w5.heap.size:=bX.out.size;clear b7 a0 a1 a2 a3;clear q0 q1 q2 q3 q4 q5 q6 q7 q8 q9 O U V Y;by_cases ab:g (i+j)=g i
                  · have bl:=AE (a:=lv) (b:=y) (c:=(g (i+j):Int)+1) (x:=lv) (y:=y) (z:=(g i:Int)+1) rfl rfl (by rw [ab])
                    have HG:=hide (show gB g f i (j+1)=gB g f i j++[N] by rw [gB,if_pos ab,cS.out]);have ds:(gB g f i j).length + [N].length≤1000000:=by have:=grp_len g f i j;simp;omega
                    obtain ⟨LT,c7⟩:∃ L,gB g f i j=L:=⟨_,rfl⟩;rw [c7] at b4 ds HG;clear c7 ab HR J a4;go_wp2_with ((at_builtin;refine qe rfl _ _ rfl W2.heap.size _ _ LT [N] rfl (jO b4.out ?hw) rfl (.inr ⟨_,_,by simp,rfl,?hl,?hc⟩) ds ?hz ?_))
                    case hw=>(repeat' exact bel)
                    case hl=>simp
                    case hc =>
                      intro i y hy
                      match i,hy with
                      | 0,hy=>simp at hy;subst hy;exact cell_2nd _ _ _ _
                    case hz=>first | omega | (simp;omega)
                    intro v' w' ba bs cl;have b3:=hide (show w'.ownsRow W2.heap.size 2 1 v' (gB g f i (j+1)).length (cd (gB g f i (j+1)))∧Below W2 W2 w' from by
                      rw [HG.out];refine ⟨by simpa using ba,Below.trans ?_ bs⟩;have h2:=bX.out
                      (repeat' exact bel))
                    clear ba bs cl x3 v0 v1 v2;go_wp2;go_roundw
                    case rel=>exact ⟨j+1,by go_num,by omega,b3⟩
                    case measure=>simp [intOf];omega
                  · have bl:=yB (a:=lv) (b:=y) (c:=(g (i+j):Int)+1) (x:=lv) (y:=y) (z:=(g i:Int)+1) (.inr (.inr om))
                    have HG:=hide (show gB g f i (j+1)=gB g f i j by rw [gB,if_neg ab]);clear ab HR J a4;go_wp2;go_roundw
                    case rel=>exact ⟨j+1,by go_num,by omega,hide ⟨by rw [HG.out];exact jO b4.out ar,by have h:=bX.out;(repeat' exact bel)⟩⟩
                    case measure=>simp [intOf];omega
                · have G:j=n-i:=om
                  rw [G] at HR;clear hj cp;have ex:=hide G;clear G;have HN:=hide (wD HR.out.1);have c4:=hide (grp_in fd.out g i (n-i));have a9:=hide (show (gB g f i (n-i)).length≤1000000 by have:=grp_len g f i (n-i);omega);rw [ex.out];go_wp2_with fail;refine (rh _ (gB g f i (n-i)) _ HN.out c4.out a9.out).mono ?_;rintro e w6 ⟨rfl,b8⟩;have bk:=hide (J.out.call b8);have eL:=hide (a4.out.call b8);clear b8 HR J a4 HN c4 a9;rcases (show iH (gB g f i (n-i)).sum=0∨iH (gB g f i (n-i)).sum=2 by unfold iH;split <;> simp) with ca | ca
                  · have ao:=hide (show rD g f n (i+1)=rD g f n i by rw [rD,aa,ca];simp)
                    rw [ca];clear ca aa;go_wp2_with fail;go_quiet (fail);go_wp2;go_roundw
                    case rel=>exact ⟨i+1,by go_num,by rw [ao.out],by omega,(by first | exact bk.out.call (below_drewN (Below.refl _ _) _) | exact bk.out)⟩
                    case measure=>simp [intOf];omega
                  · have ao:=hide (show rD g f n (i+1)=true by rw [rD,aa,ca];simp)
                    rw [ca];clear ca aa;go_wp2;go_roundw
                    case rel=>exact ⟨i+1,by go_num,by rw [ao.out],by omega,(by first | exact bk.out.call (below_drewN (Below.refl _ _) _) | exact bk.out)⟩
                    case measure=>simp [intOf];omega
  · obtain ⟨gq,rfl,ga,g0⟩:=HV.out.1 b6
    rw [b6];have eA:=hide cs;have HZ:=hide (yM cs);have eF:=hide (show m5 c M Lq gm gq w.heap.size w w4 from ⟨bh.out.1,by have:=bh.out.2.2.1;omega,dY,ga.call I.out,bh.out.2.2.2⟩);clear b6 cs ga g0 HV dY cr I E bh;rw [fk.out]
    as_aux_lemma =>
      go_wp2_with fail;go_loopw [15,70] (fun e9 fa wr=>∃ i:Nat,fa=.int .i64 i∧e9=.bool (rD g f n i)∧i≤n∧m5 c M Lq gm gq w.heap.size w wr) (fun _ s _=>(200-intOf s).toNat)
      case atStart=>exact ⟨0,rfl,rfl,by omega,eF.out⟩
      case round =>
        obtain ⟨i,rfl,rfl,hi,hS⟩:=hrel;have HS:=hide hS;clear hS;by_cases aB:i<n
        rotate_left
        · obtain rfl:i=n:=om
          rw [eA.out];have E:=HS.out.2.2.2.2;go_wp2;go_ret;exact ⟨rfl,E⟩
        obtain ⟨W0,eS⟩:∃ W0,W0=wr:=⟨_,rfl⟩;subst eS;obtain ⟨_,_,f5⟩:=bd.out i aB;obtain ⟨a0,a1,a2⟩:=(HS.out.s (ad.out i aB)).2;simp only at a0 a1 a2;obtain ⟨q0,q1,q2,q3,q4,q5,q6,q7,q8,q9,O,U,V,Y⟩:=HS.out.1;have cp:=HS.out.2.1;have cr:=HS.out.2.2.1.lt;have g1:(0:Int)≤(i:Int):=om;have g2:(i:Int)<(n:Int):=om;go_upto_region 13 with fail;go_cut [17,18] (fun bb bc wx=>Fg lv y ((g i:Int)+1) W0.heap.size W0 bb bc wx)
        case first =>
          as_aux_lemma =>
            go_region_held3 (fun w'=>(w'.cell? ⟨w,0,none⟩=some (.string c.name)∧w'.cell? ⟨w,1,none⟩=some (.int .i64 c.kind)∧w'.cell? ⟨w,2,none⟩=some (.int .i64 c.day)∧w'.cell? ⟨w,3,none⟩=some (.int .i64 c.month)∧w'.cell? ⟨w,4,none⟩=some (.int .i64 c.shift)∧w'.cell? ⟨w,5,none⟩=some (.int .i64 c.shape)∧w'.cell? ⟨w,6,none⟩=some (.int .i64 c.p0)∧w'.cell? ⟨w,7,none⟩=some (.int .i64 c.p1)∧w'.cell? ⟨w,8,none⟩=some (.int .i64 c.p2)∧w'.cell? ⟨w,9,none⟩=some (.int .i64 c.cycle)∧w'.cell? ⟨w,10,none⟩=some (.int .i64 c.extra)∧w'.cell? ⟨w,11,none⟩=some (.int .i64 c.first)∧w'.cell? ⟨w,12,none⟩=some (.int .i64 c.last)∧w'.cell? ⟨w,13,none⟩=some (.int .i64 c.policy))∧(w'.cell? ⟨gm,i*4,none⟩=some (.int .i64 fine)∧w'.cell? ⟨gm,i*4+1,none⟩=some (.int .i64 y)∧w'.cell? ⟨gm,i*4+2,none⟩=some (.int .i64 ((i:Int)+1)))) (exact (HS.out.call ar).s (ad.out i aB))
              (first | (go_at_call 11;refine (HC.out i aB _).mono ?_;rintro e w4 ⟨rfl,F⟩;have ac:W0.heap.size≤w4.heap.size:=(by have:=F.size;simp at this;omega);have I:=hide (show Below W0 W0 w4 by (repeat' exact bel));(first | (have k5:=ax.call (fK W0 #[.int .i64 0,.int .i64 0,.int .i64 0] 33) F;obtain ⟨⟨s0,s1,s2⟩,t0,t1,t2⟩:=k5.three) | (have k5:=ax.call (fL W0 #[.int .i64 0,.int .i64 0,.int .i64 0] 33) F;obtain ⟨⟨s0,s1,s2⟩,t0,t1,t2⟩:=k5.three) | skip)) | fail)
            all_goals
              go_wp2_with fail;go_meet
              first
                | exact ⟨_,rfl,rfl,ac,ax.new w4 _ _,I.out.alloc ac _⟩
                | exact ⟨_,rfl,rfl,Nat.le_refl _,k5.set123 _ _ _,((I.out.setCell (Nat.le_refl _) _).setCell (Nat.le_refl _) _).setCell (Nat.le_refl _) _⟩
        case rest =>
          obtain ⟨Bv,rfl,rfl,gw,c9,c5⟩:=hcut;obtain ⟨W1,eU⟩:∃ W1,W1=wc:=⟨_,rfl⟩;subst eU;have o:=hide (HS.out.call c5);have a5:=hide c9;clear q0 q1 q2 q3 q4 q5 q6 q7 q8 q9 O U V Y;clear c5 c9 a0 a1 a2 cp cr;have bw:=o.out.2.2.1.lt;have bx:=o.out.2.1;cases aa:i6 g i
          · as_aux_lemma =>
              have b9:0<i∧g (i-1)=g i:=by
                have h1:¬ i=0∧g (i-1)=g i:=by simpa [i6] using aa
                exact ⟨by omega,h1.2⟩
              obtain ⟨j,hj⟩:∃ j,i=j+1:=⟨i-1,by omega⟩;have hm:(i:Int)-1=(j:Int):=om;have G:j<n:=om;have bp:IntKind.i64.wrap (j:Int)=(j:Int):=IntWalk.i64_in _ om;have d1:IntKind.i64.wrap ((i:Int)-1)=(j:Int):=by rw [hm];exact bp
              have ab:g j=g i:=by have:=b9.2;rwa [hj,Nat.add_sub_cancel,← hj] at this
              have el:=hide ab;have ao:=hide (show rD g f n (i+1)=rD g f n i by rw [rD,aa];simp);have a8:0<i:=b9.1;have dd:decide (0<i)=true:=by simpa using a8
              have cb:(0:Int)≤(j:Int):=om;have cc:(j:Int)<(n:Int):=om;clear b9 ab aa hj;obtain ⟨q0,q1,q2,q3,q4,q5,q6,q7,q8,q9,O,U,V,Y⟩:=o.out.1;obtain ⟨b0,b1,b2⟩:=(o.out.s (ad.out j G)).2;simp only at b0 b1 b2;go_upto_region 17 with fail;go_cut [19,20] (fun bb bc wx=>Fg lv y ((g j:Int)+1) W1.heap.size W1 bb bc wx)
              case first =>
                as_aux_lemma =>
                  go_region_held3 (fun w'=>(w'.cell? ⟨w,0,none⟩=some (.string c.name)∧w'.cell? ⟨w,1,none⟩=some (.int .i64 c.kind)∧w'.cell? ⟨w,2,none⟩=some (.int .i64 c.day)∧w'.cell? ⟨w,3,none⟩=some (.int .i64 c.month)∧w'.cell? ⟨w,4,none⟩=some (.int .i64 c.shift)∧w'.cell? ⟨w,5,none⟩=some (.int .i64 c.shape)∧w'.cell? ⟨w,6,none⟩=some (.int .i64 c.p0)∧w'.cell? ⟨w,7,none⟩=some (.int .i64 c.p1)∧w'.cell? ⟨w,8,none⟩=some (.int .i64 c.p2)∧w'.cell? ⟨w,9,none⟩=some (.int .i64 c.cycle)∧w'.cell? ⟨w,10,none⟩=some (.int .i64 c.extra)∧w'.cell? ⟨w,11,none⟩=some (.int .i64 c.first)∧w'.cell? ⟨w,12,none⟩=some (.int .i64 c.last)∧w'.cell? ⟨w,13,none⟩=some (.int .i64 c.policy))∧(w'.cell? ⟨gm,j*4,none⟩=some (.int .i64 fine)∧w'.cell? ⟨gm,j*4+1,none⟩=some (.int .i64 y)∧w'.cell? ⟨gm,j*4+2,none⟩=some (.int .i64 ((j:Int)+1)))) (exact (o.out.call ar).s (ad.out j G))
                    (first | (go_at_call 11;refine (HC.out j G _).mono ?_;rintro e w4 ⟨rfl,F⟩;have ac:W1.heap.size≤w4.heap.size:=(by have:=F.size;simp at this;omega);have I:=hide (show Below W1 W1 w4 by (repeat' exact bel));(first | (have k5:=ax.call (fK W1 #[.int .i64 0,.int .i64 0,.int .i64 0] 33) F;obtain ⟨⟨s0,s1,s2⟩,t0,t1,t2⟩:=k5.three) | (have k5:=ax.call (fL W1 #[.int .i64 0,.int .i64 0,.int .i64 0] 33) F;obtain ⟨⟨s0,s1,s2⟩,t0,t1,t2⟩:=k5.three) | skip)) | fail)
                  all_goals
                    go_wp2_with fail;go_meet
                    first
                      | exact ⟨_,rfl,rfl,ac,ax.new w4 _ _,I.out.alloc ac _⟩
                      | exact ⟨_,rfl,rfl,Nat.le_refl _,k5.set123 _ _ _,((I.out.setCell (Nat.le_refl _) _).setCell (Nat.le_refl _) _).setCell (Nat.le_refl _) _⟩
              case rest =>
                obtain ⟨Bw,rfl,rfl,c6,a7,ah⟩:=hcut;have H:=hide (o.out.call ah);obtain ⟨⟨c0,c1,c2⟩,_⟩:=a7.three;obtain ⟨⟨e0,e1,e2⟩,_⟩:=(a5.out.call ah).three;have bl:=AE (a:=lv) (b:=y) (c:=(g j:Int)+1) (x:=lv) (y:=y) (z:=(g i:Int)+1) rfl rfl (by rw [el.out]);clear q0 q1 q2 q3 q4 q5 q6 q7 q8 q9 O U V Y;clear ah a7 b0 b1 b2;go_wp2;go_roundw
                case rel=>exact ⟨i+1,by go_num,by rw [ao.out],by omega,H.out⟩
                case measure=>simp [intOf];omega
          rcases Nat.eq_zero_or_pos i with a8 | a8
          rotate_left
          case' inr =>
            have dd:decide (0<i)=true:=by simpa using a8
            obtain ⟨j,hj⟩:∃ j,i=j+1:=⟨i-1,by omega⟩;have hm:(i:Int)-1=(j:Int):=om;have G:j<n:=om;have bp:IntKind.i64.wrap (j:Int)=(j:Int):=IntWalk.i64_in _ om;have d1:IntKind.i64.wrap ((i:Int)-1)=(j:Int):=by rw [hm];exact bp
            have cy:=hide (show ¬ g j=g i by
              have h1:g (i-1)≠g i:=by
                have:=aa;simp [i6] at this;omega
              rwa [hj,Nat.add_sub_cancel,← hj] at h1)
            have cb:(0:Int)≤(j:Int):=om;have cc:(j:Int)<(n:Int):=om;clear hj;obtain ⟨q0,q1,q2,q3,q4,q5,q6,q7,q8,q9,O,U,V,Y⟩:=o.out.1;obtain ⟨b0,b1,b2⟩:=(o.out.s (ad.out j G)).2;simp only at b0 b1 b2;go_upto_region 17 with fail;go_cut [19,20] (fun bb bc wx=>Fg lv y ((g j:Int)+1) W1.heap.size W1 bb bc wx)
            case first =>
              as_aux_lemma =>
                go_region_held3 (fun w'=>(w'.cell? ⟨w,0,none⟩=some (.string c.name)∧w'.cell? ⟨w,1,none⟩=some (.int .i64 c.kind)∧w'.cell? ⟨w,2,none⟩=some (.int .i64 c.day)∧w'.cell? ⟨w,3,none⟩=some (.int .i64 c.month)∧w'.cell? ⟨w,4,none⟩=some (.int .i64 c.shift)∧w'.cell? ⟨w,5,none⟩=some (.int .i64 c.shape)∧w'.cell? ⟨w,6,none⟩=some (.int .i64 c.p0)∧w'.cell? ⟨w,7,none⟩=some (.int .i64 c.p1)∧w'.cell? ⟨w,8,none⟩=some (.int .i64 c.p2)∧w'.cell? ⟨w,9,none⟩=some (.int .i64 c.cycle)∧w'.cell? ⟨w,10,none⟩=some (.int .i64 c.extra)∧w'.cell? ⟨w,11,none⟩=some (.int .i64 c.first)∧w'.cell? ⟨w,12,none⟩=some (.int .i64 c.last)∧w'.cell? ⟨w,13,none⟩=some (.int .i64 c.policy))∧(w'.cell? ⟨gm,j*4,none⟩=some (.int .i64 fine)∧w'.cell? ⟨gm,j*4+1,none⟩=some (.int .i64 y)∧w'.cell? ⟨gm,j*4+2,none⟩=some (.int .i64 ((j:Int)+1)))) (exact (o.out.call ar).s (ad.out j G))
                  (first | (go_at_call 11;refine (HC.out j G _).mono ?_;rintro e w4 ⟨rfl,F⟩;have ac:W1.heap.size≤w4.heap.size:=(by have:=F.size;simp at this;omega);have I:=hide (show Below W1 W1 w4 by (repeat' exact bel));(first | (have k5:=ax.call (fK W1 #[.int .i64 0,.int .i64 0,.int .i64 0] 33) F;obtain ⟨⟨s0,s1,s2⟩,t0,t1,t2⟩:=k5.three) | (have k5:=ax.call (fL W1 #[.int .i64 0,.int .i64 0,.int .i64 0] 33) F;obtain ⟨⟨s0,s1,s2⟩,t0,t1,t2⟩:=k5.three) | skip)) | fail)
                all_goals
                  go_wp2_with fail;go_meet
                  first
                    | exact ⟨_,rfl,rfl,ac,ax.new w4 _ _,I.out.alloc ac _⟩
                    | exact ⟨_,rfl,rfl,Nat.le_refl _,k5.set123 _ _ _,((I.out.setCell (Nat.le_refl _) _).setCell (Nat.le_refl _) _).setCell (Nat.le_refl _) _⟩
            obtain ⟨Bw,rfl,rfl,c6,a7,ah⟩:=hcut;obtain ⟨W2,aA⟩:∃ W2,W2=wc:=⟨_,rfl⟩;subst aA;have H:=hide (o.out.call ah);have aq:=hide (a5.out.call ah);obtain ⟨⟨c0,c1,c2⟩,_⟩:=a7.three;obtain ⟨⟨e0,e1,e2⟩,_⟩:=aq.out.three;have bl:=yB (a:=lv) (b:=y) (c:=(g j:Int)+1) (x:=lv) (y:=y) (z:=(g i:Int)+1) (.inr (.inr (by have:=cy.out;omega)));have e5:¬ n-i=0:=om;clear q0 q1 q2 q3 q4 q5 q6 q7 q8 q9 O U V Y;clear ah a7 b0 b1 b2 o a5 bw bx HS;have dg:=H.out.2.2.1.lt;have dq:=H.out.2.1;go_wp2_with fail;clear bl c0 c1 c2 e0 e1 e2 d1 bp hm G cb cc cy c6
          case' inl =>
            have e4:i≤0:=om;have dd:decide (0<i)=false:=ag;clear a8;obtain ⟨W2,aA⟩:∃ W2,W2=W1:=⟨_,rfl⟩;have H:=hide (show m5 c M Lq gm gq w.heap.size w W2 by rw [aA];exact o.out);have aq:=hide (show ax W2 Bv #[lv,y,.int .i64 ((g i:Int)+1)] 33 by rw [aA];exact a5.out);rw [← aA];have e5:¬ n-i=0:=om;clear aA o a5 bw bx HS;have dg:=H.out.2.2.1.lt;have dq:=H.out.2.1;go_wp2_with fail;clear e4
          all_goals
            as_aux_lemma =>
              have gA:Bv<W2.heap.size:=aq.out.lt;go_loopw [21,111] (fun xB d3 wr=>∃ j:Nat,d3=.int .i64 j∧j≤n-i∧Hid (wr.ownsRow W2.heap.size 2 1 xB (gB g f i j).length (cd (gB g f i j))∧Below W2 W2 wr)) (fun _ s _=>(200-intOf s).toNat)
              case atStart=>exact ⟨0,rfl,Nat.zero_le _,hide ⟨World.ownsRow_nil _ _ _ _,Below.refl _ _⟩⟩
              case round =>
                obtain ⟨j,rfl,hj,HR⟩:=hrel;have e8:=HR.out.2.size;have J:=hide (H.out.call HR.out.2);have a4:=hide (aq.out.call HR.out.2);obtain ⟨W3,e3⟩:∃ W3,W3=wr:=⟨_,rfl⟩;subst e3;by_cases cp:j<n-i
                · obtain ⟨a0,a1,a2,a3⟩:=J.out.2.2.1.cell (ad.out (i+j) om)
                  rw [Nat.add_mul] at a0 a1 a2 a3;simp only at a0 a1 a2 a3;obtain ⟨q0,q1,q2,q3,q4,q5,q6,q7,q8,q9,O,U,V,Y⟩:=J.out.1;have f6:=J.out.2.2.1.lt;have f8:=J.out.2.1;have cb:(0:Int)≤(j:Int):=om;have cc:(j:Int)<(n:Int)-(i:Int):=om;have g3:(j:Int)<((n-i:Nat):Int):=om;have cv:=hide (HC.out (i+j) om);obtain ⟨N,hN⟩:∃ N,f (i+j)=N:=⟨_,rfl⟩;obtain ⟨K,hK⟩:∃ K:Int,((i+j:Nat):Int)+1=K:=⟨_,rfl⟩;rw [hN] at a3;rw [hK] at a2 cv;have cS:=hide hN;clear hN hK;go_wp2_with fail;refine (cv.out _).mono ?_;rintro e w5 ⟨rfl,b7⟩;have g6:W3.heap.size<w5.heap.size:=am b7;have b5:=hide (show Below W3 W3 w5 by (repeat' exact bel));have c3:=hide (a4.out.call b5.out);have bX:=hide (HR.out.2.trans (b5.out.mono e8));have b4:=hide (jO HR.out.1 b5.out);have x3:=((ax.new W3 #[fine,y,K,.int .i64 N] 59).call b7).cell 3;simp at x3;obtain ⟨v0,v1,v2⟩:=c3.out.three.1;have f4:Bv<w5.heap.size:=c3.out.lt;have gb:W2.heap.size≤w5.heap.size:=bX.out.size;clear b7 a0 a1 a2 a3;clear q0 q1 q2 q3 q4 q5 q6 q7 q8 q9 O U V Y;by_cases ab:g (i+j)=g i
                  · have bl:=AE (a:=lv) (b:=y) (c:=(g (i+j):Int)+1) (x:=lv) (y:=y) (z:=(g i:Int)+1) rfl rfl (by rw [ab])
                    have HG:=hide (show gB g f i (j+1)=gB g f i j++[N] by rw [gB,if_pos ab,cS.out]);have ds:(gB g f i j).length + [N].length≤1000000:=by have:=grp_len g f i j;simp;omega
                    obtain ⟨LT,c7⟩:∃ L,gB g f i j=L:=⟨_,rfl⟩;rw [c7] at b4 ds HG;clear c7 ab HR J a4;go_wp2_with ((at_builtin;refine qe rfl _ _ rfl W2.heap.size _ _ LT [N] rfl (jO b4.out ?hw) rfl (.inr ⟨_,_,by simp,rfl,?hl,?hc⟩) ds ?hz ?_))
                    case hw=>(repeat' exact bel)
                    case hl=>simp
                    case hc =>
                      intro i y hy
                      match i,hy with
                      | 0,hy=>simp at hy;subst hy;exact cell_2nd _ _ _ _
                    case hz=>first | omega | (simp;omega)
                    intro v' w' ba bs cl;have b3:=hide (show w'.ownsRow W2.heap.size 2 1 v' (gB g f i (j+1)).length (cd (gB g f i (j+1)))∧Below W2 W2 w' from by
                      rw [HG.out];refine ⟨by simpa using ba,Below.trans ?_ bs⟩;have h2:=bX.out
                      (repeat' exact bel))
                    clear ba bs cl x3 v0 v1 v2;go_wp2;go_roundw
                    case rel=>exact ⟨j+1,by go_num,by omega,b3⟩
                    case measure=>simp [intOf];omega
                  · have bl:=yB (a:=lv) (b:=y) (c:=(g (i+j):Int)+1) (x:=lv) (y:=y) (z:=(g i:Int)+1) (.inr (.inr om))
                    have HG:=hide (show gB g f i (j+1)=gB g f i j by rw [gB,if_neg ab]);clear ab HR J a4;go_wp2;go_roundw
                    case rel=>exact ⟨j+1,by go_num,by omega,hide ⟨by rw [HG.out];exact jO b4.out ar,by have h:=bX.out;(repeat' exact bel)⟩⟩
                    case measure=>simp [intOf];omega
                · have G:j=n-i:=om
                  rw [G] at HR;clear hj cp;have ex:=hide G;clear G;have HN:=hide (wD HR.out.1);have c4:=hide (grp_in fd.out g i (n-i));have a9:=hide (show (gB g f i (n-i)).length≤1000000 by have:=grp_len g f i (n-i);omega);rw [ex.out];go_wp2_with fail;refine (rh _ (gB g f i (n-i)) _ HN.out c4.out a9.out).mono ?_;rintro e w6 ⟨rfl,b8⟩;have bk:=hide (J.out.call b8);have eL:=hide (a4.out.call b8);clear b8 HR J a4 HN c4 a9;rw [HZ.out i aB aa];have ao:=hide (show rD g f n (i+1)=rD g f n i by rw [rD,aa,HZ.out i aB aa];simp);have hL:=eE.out (g i) f5;rw [(cx.out.1 i aB aa).1] at hL;obtain ⟨l0,l1,l2,l3⟩:=bk.out.2.2.2.1.cell hL;simp only at l0 l1 l2 l3;obtain ⟨FV,f0⟩:∃ x,kh (gB g f i (n-i)).sum=x:=⟨_,rfl⟩;rw [f0] at l3 ⊢;obtain ⟨v0,v1,v2⟩:=eL.out.three.1;have g7:Bv<w6.heap.size:=eL.out.lt;have g8:=bk.out.2.2.2.1.lt;have g9:=Gh lv y ((g i:Int)+1) FV;have hd:decide ((g i:Int)+1<1)=false:=ag;have he:decide ((g i:Int)+1 > (aM c y lv:Int))=false:=ag;have hq:(0:Int)≤(g i:Int):=om;have hs:(g i:Int)<(aM c y lv:Int):=om;have ht:(g i:Int)+1-1=(g i:Int):=om;have hu:IntKind.i64.wrap (g i:Int)=(g i:Int):=IntWalk.i64_in _ (by have:=Dw (kl (lj gs.out).1 lv e7 om);omega);clear hL f0 aa;go_wp2_with fail;go_quiet (fail);go_wp2;go_roundw
                  case rel=>exact ⟨i+1,by go_num,by rw [ao.out],by omega,(by first | exact bk.out.call (below_drewN (Below.refl _ _) _) | exact bk.out)⟩
                  case measure=>simp [intOf];omega
end
end Go.Proofs.YtpebkobmhhnojaaGreatDoor
namespace Go.Proofs.YtpebkobmhhnojaaGreatDoor.topRoll
section
open Go.ChangeShapes Go.WideShapes Go.ChangeAt Go.RowKit Qd
theorem Gv:Tryz.prog.readableRec 24=true∧24<Tryz.prog.types.size:=⟨by kernel_rfl,of_decide_eq_true (by kernel_rfl)⟩
theorem Fo:Tryz.prog.readableRec 3=true∧3<Tryz.prog.types.size:=⟨by kernel_rfl,of_decide_eq_true (by kernel_rfl)⟩
theorem Is:Tryz.prog.readableRec 53=true∧53<Tryz.prog.types.size:=⟨by kernel_rfl,of_decide_eq_true (by kernel_rfl)⟩
theorem lifted (os:Os) (F:os.Started) (H:Type) (enc:TypeId × Value→H) :
  ReturnsInHanded {} Tryz.checked os 5 .any (fun w f=>(Rows.topRollSpec.pre enc Tryz.prog Tryz.f5 Rows.topRollRow.domain false w f∧laidMetH Tryz.prog Rows.topRollRow.laid w)∧sizedMet enc Tryz.prog Tryz.f5 (OpenSpec.ofChange Rows.topRollSpec) false w f) (Rows.topRollSpec.post enc Tryz.prog Tryz.f5 false true false false):=by
 refine iU (C:=Tryz.checked) (X:=fun w _=>laidMetH Tryz.prog Rows.topRollRow.laid w) (fun _ _ _ hh h=>h.of_heap hh) own F (by kernel_rfl) Tryz.func5
  (ChangeSpec.witness_shaped (enc:=enc) (C:=Tryz.checked) (os:=os) (X:=fun w _=>laidMetH Tryz.prog Rows.topRollRow.laid w) false (World.laidAll Tryz.prog os Rows.topRollRow.laid) #[.agg #[.string ⟨#[]⟩,.int .i64 0,.int .i64 0,.int .i64 0,.int .i64 0,.int .i64 0,.int .i64 0,.int .i64 0,.int .i64 0,.int .i64 0,.int .i64 0,.int .i64 0,.int .i64 0,.int .i64 0],.int .i64 0,.agg #[.slice none 0 0,.slice none 0 0],.int .i64 0,.int .i64 0] 8 (World.laidAll_os _ _ _)
   (World.shaped_of_ZipB (by kernel_rfl) (by kernel_rfl)) (by kernel_rfl) (by kernel_rfl) (by kernel_rfl)
   (by rw [MakeChecks.laidMetH_plain _ _ _ (by kernel_rfl)];exact laidMet_laidAll _ (by kernel_rfl) (by kernel_rfl))) ?_
 intro W G f ds gs Y E hW hL aA;have o:∀ (j:Nat) t v,Tryz.f5.params[j]?=some t→f[j]?=some v→Value.okWide Tryz.prog W .any G t v:=E;have J:=hW;obtain ⟨p,q,I,hV,rfl,a8,a9⟩:=hW;have hA:DataW.TrodAll enc Tryz.prog W 0 (fun _=>true) true Tryz.f5.params.toList f.toList ds p:=I;have ac:=hA;rw [Tryz.params5] at hA o;obtain ⟨v0,bl,d0,a0,p0,q0,ad,rfl,ba,h0,r0⟩:=trodAll_cons hA;obtain ⟨v1,bp,d1,a2,p1,q1,rfl,rfl,bb,h1,r1⟩:=trodAll_cons r0;obtain ⟨v2,bs,d2,a5,p2,q2,rfl,rfl,bc,h2,r2⟩:=trodAll_cons r1;obtain ⟨v3,bt,d3,a6,p3,q3,rfl,rfl,bd,h3,r3⟩:=trodAll_cons r2;obtain ⟨v4,bw,d4,a7,p4,q4,rfl,rfl,bh,h4,r4⟩:=trodAll_cons r3;obtain ⟨rfl,rfl,bk⟩:=trodAll_nil r4;obtain rfl:f=#[v0,v1,v2,v3,v4]:=by cases f;simp_all
 obtain ⟨rfl,rfl⟩:=trodVars_none hV;obtain ⟨c0,rfl,aq,aB⟩:=mu (o 0 24 v0 rfl rfl) h0;obtain ⟨a1,rfl,_,_,w1⟩:=open_int Tryz.underlying3 (o 1 3 v1 rfl rfl) h1;obtain ⟨x2,y2,P2,A2,rfl,ab,aa,U,O,ah,ao⟩:=vg (o 2 53 v2 rfl rfl) h2;obtain ⟨a3,rfl,_,_,w3⟩:=open_int Tryz.underlying3 (o 3 3 v3 rfl rfl) h3;obtain ⟨a4,rfl,_,_,w4⟩:=open_int Tryz.underlying3 (o 4 3 v4 rfl rfl) h4;clear I E;refine ((fun c hn _ y _ x2 y2 P A gP gA hp ha hl hm lv _ fine _=>A9 c hn y x2 y2 P A lv fine W (pm hL aA) gP gA hp ha hl hm) c0 aq aB a1 w1 x2 y2 P2 A2 ab aa U O ah ao a3 w3 a4 w4).mono fun e W' ⟨he,hb⟩=>?_
 subst he;have al:∀ x∈p++[],x.block<W.heap.size:=fun x V=>J.lt x V
 refine ⟨_,rfl,gG (pa:=p) (pv:=[]) J (fun _ _ _=>(trodAll_cons_mk (shut_bool Tryz.underlying4 _) trodAll_mk0)) (fun sp hs=>?_) (fun _ _=>rfl) rfl hb (ok_one (by kernel_rfl) rfl (okWide_bool_mk Tryz.underlying4 _))⟩;exact eN pb (by rw [Tryz.params5];intro t ht;simp only [List.mem_cons,List.not_mem_nil,or_false] at ht;rcases ht with rfl | rfl | rfl | rfl | rfl <;> first | exact Gv | exact Fo | exact Is) ac (fun x V=>hb.same (al x (List.mem_append_left _ V))) (fun x V=>hs x (List.mem_append_left _ V))
theorem yP:Rows.topRollRow.holds Tryz.pinned (OpenSpec.ofChange Rows.topRollSpec):=
 OpenClaim.holds_of_wide 5 Tryz.f5 rfl rfl rfl rfl rfl rfl rfl ⟨rfl,rfl,rfl,rfl,rfl⟩ rfl rfl rfl rfl rfl (by kernel_rfl) Tryz.func5 mE
  (of_decide_eq_true (by kernel_rfl)) (by unfold Func.isWrapper;rw [if_neg (of_decide_eq_false (by kernel_rfl))];exact ⟨rfl,rfl⟩)
  (fun os f H enc _=>lifted os f H enc)
theorem proved:Rows.TopRollCardSaid:=
 Claim7.holds_tied_plain_at .later [] [.data,.data,.data,.data,.pinned] true (true, "217ccb0b19a70f3b3cb9e823034708ac5b031a0391e28b0d26703c089ceaedfa") false yP (fun _ h=>by cases h) (by kernel_rfl) (fun _ h=>by cases h) topRoll_row_tie rfl ⟨rfl,rfl⟩ (by kernel_rfl) rfl
  (fun f G H E=>by
   obtain rfl:f=5:=Option.some.inj ((show Tryz.prog.funcNamed "quarterday/quarterdaytop.TopRoll" = some 5 by kernel_rfl).symm.trans H) |>.symm;obtain rfl:G=Tryz.f5:=(Option.some.inj (Tryz.func5.symm.trans E)).symm;exact ⟨by kernel_rfl,fun j t F=>by
    rw [Tryz.params5] at F;have I:t∈[24,3,53,3,3]:=by simpa using Array.mem_of_getElem? F
    have o:([24,3,53,3,3].all fun u=>!Tryz.prog.wantsStandIn u)=true:=by kernel_rfl
    exact (show Tryz.prog.wantsStandIn t=false by simpa using List.all_eq_true.1 o t I)⟩)
  (by kernel_rfl)
#print axioms proved
end
end Go.Proofs.YtpebkobmhhnojaaGreatDoor.topRoll
