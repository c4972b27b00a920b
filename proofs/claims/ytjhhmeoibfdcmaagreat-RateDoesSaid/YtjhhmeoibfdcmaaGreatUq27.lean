/- The reference of layer 4: an amount cut, the walk. The frame of a row's proof: a law answers true, its arguments read as they did. Units and spans that a law takes. -/
import Derived.OpenShut
import Derived.ProofKit
import Derived.Test.YtjhhmeoibfdcmaaGreatUq01
import Derived.Test.YtjhhmeoibfdcmaaGreatUq03
import Derived.Test.YtjhhmeoibfdcmaaGreatUq26
set_option linter.unusedSimpArgs false
set_option linter.unusedVariables false
set_option maxRecDepth 100000
set_option maxHeartbeats 12800000
namespace Go.Proofs.YtjhhmeoibfdcmaaGreat
open Go.RowKit Qd
theorem rem_in {a n:Int} {ws:List Int} (h0:0<n) (h1:n≤9223372036854775807):∀ r∈remL a n ws,in64 r:=by
  intro r hr
  simp only [remL,List.mem_map] at hr
  obtain ⟨x,_,rfl⟩:=hr
  have:=Int.emod_nonneg (a*x) (show n≠0 by omega)
  have:=Int.emod_lt_of_pos (a*x) h0
  unfold in64
  omega
theorem rem_sum {a n:Int} {ws:List Int} (hs:ws.sum=n) (h0:0<n):(remL a n ws).sum / n=moreV a n ws:=by
  have h:=more_mul (a:=a) hs
  rw [ptL_ab] at h
  unfold remL
  rw [h,Int.mul_ediv_cancel_left _ (by omega)]
theorem r04split_gen (a n M hi lo:Int) (L:Nat) (ws:List Int) (S:List Pt) (v:Value) (w:World) (hv:Nums w v ws) (hL:ws.length=L) (hL0:0<L) (hL1:L≤4096) (hM0:0≤M) (hM1:M<L) (hSL:Hid (S.length=L)) (hrl:Hid ((remL a n ws).length=L)) (hql:Hid ((qL a n ws).length=L))
    (HALL:Hid (∀ W,Nums W v ws→Calls Tryz.prog 109 #[v] W fun e w'=>e=.returned (.tuple #[.int .i64 n,.int .i64 0])∧Below W.heap.size W w'))
    (HMD:Hid (∀ x∈ws,∀ W,Calls Tryz.prog 110 #[.int .i64 a,.int .i64 x,.int .i64 n] W fun e w'=>e=.returned (.tuple #[.int .i64 (a*x / n),.int .i64 (a*x % n),.int .i64 0])∧Below W.heap.size W w'))
    (HSM:Hid (∀ u W,Nums W u (remL a n ws)→Calls Tryz.prog 112 #[u] W fun e w'=>e=.returned (.agg #[.int .i64 hi,.int .u64 lo])∧Below W.heap.size W w'))
    (HDV:Hid (∃ h2 l2 r,(∀ W,Calls Tryz.prog 111 #[.agg #[.int .i64 hi,.int .u64 lo],.int .i64 n] W fun e w'=>e=.returned (.tuple #[.agg #[.int .i64 h2,.int .u64 l2],.int .i64 r,.int .i64 0])∧Below W.heap.size W w')∧∀ W,Calls Tryz.prog 113 #[.agg #[.int .i64 h2,.int .u64 l2]] W fun e w'=>e=.returned (.tuple #[.int .i64 M,.int .i64 0])∧Below W.heap.size W w'))
    (HB:Hid (∀ (t:Nat),(t:Int)<M→∃ p,S[t]?=some p∧p.pos.toNat<L∧BestTo (abT (remL a n ws) (S.take t)) L p.pos.toNat∧abT (remL a n ws) (S.take (t+1))=(abT (remL a n ws) (S.take t)).set p.pos.toNat (-1) ∧
      ∃ y,(bumpL (qL a n ws) (S.take t))[p.pos.toNat]?=some y∧bumpL (qL a n ws) (S.take (t+1))=(bumpL (qL a n ws) (S.take t)).set p.pos.toNat (y+1)∧in64 (y+1))) :
    Calls Tryz.prog 66 #[.int .i64 a,v] w fun e w'=>(∃ x,e=.returned (.tuple #[x,.int .i64 0])∧OwnI w' w.heap.size x (bumpL (qL a n ws) (S.take M.toNat)))∧Below w.heap.size w w':=by
  have HV:=hide hv
  obtain ⟨ad,cap,rfl,hc⟩:=hv
  rw [hL] at HV HALL ⊢
  clear hc
  go_enter Tryz.func66,Tryz.ntmps66
  go_wp2_with fail
  refine (HALL.out _ HV.out).mono ?_
  rintro e w1 ⟨rfl,hb1⟩
  have H0:=hide (show TwoI w.heap.size w (.slice none 0 0) (.slice none 0 0) ((qL a n ws).take 0) ((remL a n ws).take 0) w1 from ⟨World.ownsRow_nil _ _ _ _,World.ownsRow_nil _ _ _ _,fun k hk=>by simp [Value.ownBlock] at hk,hb1,hb1.size⟩)
  clear hb1
  go_wp2_with fail
  go_loopw [8,9,33] (fun s8 s9 s wr=>∃ j:Nat,s=.int .i64 j∧j≤L∧TwoI w.heap.size w s8 s9 ((qL a n ws).take j) ((remL a n ws).take j) wr) (fun _ _ s _=>(5000-intOf s).toNat)
  case atStart=>exact ⟨0,rfl,Nat.zero_le _,H0.out⟩
  case round =>
    obtain ⟨j,rfl,hj,hS⟩:=hrel
    have HS:=hide hS
    have hBel:=hS.2.2.2.1
    clear hS
    by_cases hlt:j<L
    · obtain ⟨x,hx⟩:∃ x,ws[j]?=some x:=⟨_,List.getElem?_eq_getElem (by omega)⟩
      have hV:=HV.out.call hBel
      obtain ⟨ad',cap',e,hc⟩:=hV
      rw [hL] at e
      cases e
      obtain ⟨g,o,rfl,hg,a0⟩:=hc j x hx
      have HMX:=hide (HMD.out x (List.mem_of_getElem? hx))
      have HQ:=hide (show (qL a n ws).take (j+1)=(qL a n ws).take j++[a*x / n] by rw [List.take_add_one,qL_at hx];rfl)
      have HR:=hide (show (remL a n ws).take (j+1)=(remL a n ws).take j++[a*x % n] by rw [List.take_add_one,remL_at hx];rfl)
      have hi1:(0:Int)≤(j:Int):=by omega
      have hi3:(j:Int)<(L:Int):=by omega
      clear hc hx
      generalize a*x / n=q at *
      generalize a*x % n=r at *
      go_wp2_with fail
      refine (HMX.out _).mono ?_
      rintro e w2 ⟨rfl,hb2⟩
      have HS2:=hide (HS.out.call hb2)
      have hz2:=HS2.out.2.2.2.2
      clear hb2
      go_wp2_with ((at_builtin;refine app_one rfl _ _ rfl w.heap.size u8 ((qL a n ws).take j) q w2.heap.size rfl (HS2.out.1.alloc _) rfl (by simp) (by rw [List.length_take];omega) (by simp;omega) ?_))
      intro v8 w3 ho3 hg3 hat3
      have HS3:=hide (TwoI.app (HS2.out.call ((Below.refl _ _).alloc (Nat.le_refl _) (.cells #[.int .i64 q] 2))) (show OwnI w3 w.heap.size v8 ((qL a n ws).take j++[q]) by unfold OwnI;simpa using ho3) hg3 (by simpa using hat3))
      rw [← HQ.out] at HS3
      have hz3:=HS3.out.2.2.2.2
      clear ho3 hg3 hat3
      go_wp2_with ((at_builtin;refine app_one rfl _ _ rfl w.heap.size u9 ((remL a n ws).take j) r w3.heap.size rfl (HS3.out.2.1.alloc _) rfl (by simp) (by rw [List.length_take];omega) (by simp;omega) ?_))
      intro v9 w4 ho4 hg4 hat4
      have HS4:=hide (TwoI.swap (TwoI.app (TwoI.swap (HS3.out.call ((Below.refl _ _).alloc (Nat.le_refl _) (.cells #[.int .i64 r] 2)))) (show OwnI w4 w.heap.size v9 ((remL a n ws).take j++[r]) by unfold OwnI;simpa using ho4) hg4 (by simpa using hat4)))
      rw [← HR.out] at HS4
      clear ho4 hg4 hat4
      go_wp2
      go_roundw
      case rel=>exact ⟨j+1,by go_num,by omega,HS4.out⟩
      case measure=>simp [intOf];omega
    · have hjl:j=L:=by omega
      have HSE:=hide (show TwoI w.heap.size w u8 u9 (bumpL (qL a n ws) (S.take 0)) (abT (remL a n ws) (S.take 0)) wr by
        have h:=HS.out
        rw [List.take_of_length_le (by rw [hql.out];omega),List.take_of_length_le (by rw [hrl.out];omega)] at h
        simpa [bumpL,abT] using h)
      have HSU:=hide (HSM.out u9 wr (by have h:=HSE.out.2.1;simp only [List.take_zero] at h;exact owns_nums h))
      obtain ⟨h2,l2,rr,hdv,hft⟩:=HDV.out
      have HD2:=hide hdv
      have HF2:=hide hft
      have HBL:=hide (fun T=>show (bumpL (qL a n ws) T).length=L by rw [bumpL_len,hql.out])
      have HAL:=hide (fun T=>show (abT (remL a n ws) T).length=L by rw [abT_len,hrl.out])
      obtain ⟨g8,cap8,e8,_⟩:=World.ownsRow.form HSE.out.1 (by rw [HBL.out];exact hL0)
      obtain ⟨g9,cap9,e9,_⟩:=World.ownsRow.form HSE.out.2.1 (by rw [HAL.out];exact hL0)
      rw [HBL.out] at e8
      rw [HAL.out] at e9
      subst e8 e9
      rw [hjl]
      clear hdv hft hj hjl HS hlt
      go_wp2_with fail
      refine HSU.out.mono ?_
      rintro e w2 ⟨rfl,hb2⟩
      have HS2:=hide (HSE.out.call hb2)
      have hz2:=HS2.out.2.2.2.2
      clear hb2
      go_wp2_with fail
      refine (HD2.out _).mono ?_
      rintro e w3 ⟨rfl,hb3⟩
      have HS3:=hide (HS2.out.call hb3)
      have hz3:=HS3.out.2.2.2.2
      clear hb3
      go_wp2_with fail
      refine (HF2.out _).mono ?_
      rintro e w4 ⟨rfl,hb4⟩
      have HS4:=hide ((HS3.out.call ((Below.refl _ _).alloc (Nat.le_refl _) (.cells #[.int .i64 h2,.int .u64 l2] 103))).call hb4)
      have hz4:=HS4.out.2.2.2.2
      clear hb4 hBel
      go_wp2_with fail
      go_loopw [68] (fun s wr=>∃ t:Nat,s=.int .i64 t∧(t:Int)≤M∧TwoI w.heap.size w (.slice (some ⟨g8,0,none⟩) L cap8) (.slice (some ⟨g9,0,none⟩) L cap9) (bumpL (qL a n ws) (S.take t)) (abT (remL a n ws) (S.take t)) wr) (fun s _=>(5000-intOf s).toNat)
      case atStart=>exact ⟨0,rfl,hM0,HS4.out⟩
      case round =>
        obtain ⟨t,rfl,ht,hS⟩:=hrel
        have HS:=hide hS
        have hBel:=hS.2.2.2.1
        clear hS
        by_cases hlt:(t:Int)<M
        · obtain ⟨p,hp,hpl,hbest,hab,y,hy,hbu,hy64⟩:=HB.out t hlt
          have HAB:=hide hab
          have HBU:=hide hbu
          have HBS:=hide hbest
          have HY:=hide hy
          have HBLt:=hide (HBL.out (S.take t))
          have HALt:=hide (HAL.out (S.take t))
          generalize bumpL (qL a n ws) (S.take t)=X8 at *
          generalize abT (remL a n ws) (S.take t)=X9 at *
          generalize p.pos.toNat=b0 at *
          unfold in64 at hy64
          obtain ⟨hy1,hy2⟩:=hy64
          obtain ⟨wo,hwo⟩:∃ wo:World,wo=wr:=⟨_,rfl⟩
          rw [← hwo] at HS hBel ⊢
          clear hp hab hbu hbest hy hwo
          go_wp2_with fail
          go_loopw [20,72] (fun s20 s72 wr=>∃ i b:Nat,s20=.int .i64 b∧s72=.int .i64 i∧i≤L∧Hid (BestTo X9 i b)∧TwoI w.heap.size w (.slice (some ⟨g8,0,none⟩) L cap8) (.slice (some ⟨g9,0,none⟩) L cap9) X8 X9 wr) (fun _ s72 _=>(5000-intOf s72).toNat)
          case atStart=>exact ⟨0,0,rfl,rfl,Nat.zero_le _,hide (best_zero _),HS.out⟩
          case round =>
            obtain ⟨i,b,rfl,rfl,hi,HBE,hS⟩:=hrel
            have HT:=hide hS
            have hBel:=hS.2.2.2.1
            clear hS
            by_cases hil:i<L
            · have hbL:b<L:=by rcases HBE.out.1 with h | h <;> omega
              obtain ⟨yi,hyi⟩:∃ x,X9[i]?=some x:=⟨_,List.getElem?_eq_getElem (by rw [HALt.out];exact hil)⟩
              obtain ⟨yb,hyb⟩:∃ x,X9[b]?=some x:=⟨_,List.getElem?_eq_getElem (by rw [HALt.out];exact hbL)⟩
              have c1:=(ownI_cell HT.out.2.1 HALt.out.symm hyi).1
              have c2:=(ownI_cell HT.out.2.1 HALt.out.symm hyb).1
              have e1:X9.getD i 0=yi:=by rw [List.getD_eq_getElem?_getD,hyi];rfl
              have e2:X9.getD b 0=yb:=by rw [List.getD_eq_getElem?_getD,hyb];rfl
              have HGT:=hide (fun h=>best_more HBE.out (show X9.getD b 0<X9.getD i 0 by rw [e1,e2];exact h))
              have HLE:=hide (fun h=>best_less HBE.out (show ¬ X9.getD b 0<X9.getD i 0 by rw [e1,e2];exact h))
              have hi1:(0:Int)≤(i:Int):=by omega
              have hi3:(i:Int)<(L:Int):=by omega
              have hi5:(0:Int)≤(b:Int):=by omega
              have hi6:(b:Int)<(L:Int):=by omega
              clear hyi hyb e1 e2
              by_cases hc:yb<yi
              · have HN:=hide (HGT.out hc)
                go_wp2
                all_goals first
                  | (exfalso;omega)
                  | skip
                go_roundw
                case rel=>exact ⟨i+1,i,rfl,by go_num,by omega,HN,HT.out⟩
                case measure=>simp [intOf];omega
              · have HN:=hide (HLE.out hc)
                go_wp2
                all_goals first
                  | (exfalso;omega)
                  | skip
                go_roundw
                case rel=>exact ⟨i+1,b,rfl,by go_num,by omega,HN,HT.out⟩
                case measure=>simp [intOf];omega
            · have hiL:i=L:=by omega
              have hbb:b=b0:=best_uniq (by have h:=HBE.out;rwa [hiL] at h) HBS.out hL0
              subst hbb
              obtain ⟨c1,f1⟩:=ownI_cell HT.out.1 HBLt.out.symm HY.out
              obtain ⟨yb,hyb⟩:∃ x,X9[b]?=some x:=⟨_,List.getElem?_eq_getElem (by rw [HALt.out];exact hpl)⟩
              obtain ⟨c2,f2⟩:=ownI_cell HT.out.2.1 HALt.out.symm hyb
              have hi5:(0:Int)≤(b:Int):=by omega
              have hi6:(b:Int)<(L:Int):=by omega
              have hne:g8≠g9:=fun e=>HT.out.2.2.1 g8 rfl (by rw [e];rfl)
              have hne2:¬ g9=g8:=fun e=>hne e.symm
              clear hyb
              go_wp2
              all_goals first
                | (exfalso;omega)
                | skip
              go_roundw
              case rel=>exact ⟨t+1,by go_num,by omega,by rw [HBU.out,HAB.out];exact TwoI.swap (TwoI.set (TwoI.swap (TwoI.set HT.out HBLt.out.symm b (y+1))) HALt.out.symm b (-1))⟩
              case measure=>simp [intOf];omega
        · have htM:t=M.toNat:=by omega
          have HO:=hide HS.out.1
          rw [htM] at HO
          go_wp2
          all_goals first
            | (exfalso;omega)
            | (go_ret2;exact ⟨⟨_,rfl,by have h:=HO.out;unfold OwnI;rw [bumpL_len,hql.out];rw [OwnI,bumpL_len,hql.out] at h;exact h⟩,hBel⟩)
            | (refine bodyPost_ret (v:=.tuple #[.slice (some ⟨g8,0,none⟩) L cap8,.int .i64 0]) (by simp (maxDischargeDepth:=9) [results,Tryz.results66,go_sem]) rfl ⟨⟨_,rfl,HO.out⟩,hBel⟩)
theorem r04split_yes (a:Int) (ws:List Int) (v:Value) (w:World) (hv:Nums w v ws) (ha:in64 a) (hl:∀ x∈ws,0≤x) (hn:ws.length≤4096) (h0:0<ws.sum) (hs:ws.sum≤9223372036854775807) :
    Calls Tryz.prog 66 #[.int .i64 a,v] w fun e w'=>(∃ x,e=.returned (.tuple #[x,.int .i64 0])∧OwnI w' w.heap.size x (outV a ws))∧Below w.heap.size w w':=by
  have hle:=pos_sum hl
  have h64:∀ x∈ws,in64 x:=fun x hx=>by have:=hl x hx;have:=hle x hx;unfold in64;omega
  have hput:=out_put a ws
  obtain ⟨hm0,hm1⟩:=more_bd (a:=a) h0 rfl
  have hL0:0<ws.length:=by omega
  have hrs:∀ r∈remL a ws.sum ws,in64 r:=rem_in h0 hs
  have hwd:wideOk (remL a ws.sum ws).sum:=sum_wd hrs (by rw [remL_len];omega)
  have hM64:in64 (moreV a ws.sum ws):=by unfold in64;omega
  refine r04split_gen a ws.sum (moreV a ws.sum ws) _ _ ws.length ws (srtP (ptL a ws.sum ws)) v w hv rfl hL0 hn hm0 hm1 (hide (by rw [hput.1.length_eq,ptL_len])) (hide (remL_len _ _ _)) (hide (qL_len _ _ _))
    (hide fun W hW=>r04all_yes v ws W hW hl hn h64 (by unfold in64;omega) h0)
    (hide fun x hx W=>r02muldiv_ok a x ws.sum W ha (h64 x hx) h0 hs (qL_in ha h0 (fun y hy=>⟨hl y hy,hle y hy⟩) _ (by simp only [qL,List.mem_map];exact ⟨x,hx,rfl⟩)))
    (hide fun u W hu=>r04sums_any u _ W hu hrs (by rw [remL_len];omega))
    (hide ⟨_,_,_,fun W=>r02div_any _ ws.sum W hwd h0 hs,fun W=>?_⟩) (hide fun t ht=>?_)
  · rw [rem_sum rfl h0]
    have:=r02fit_any (moreV a ws.sum ws) W (in_wd hM64)
    rw [(fit_yes hM64).1,(fit_yes hM64).2] at this
    exact this
  · have hSl:(srtP (ptL a ws.sum ws)).length=ws.length:=by rw [hput.1.length_eq,ptL_len]
    obtain ⟨p,hp⟩:∃ p,(srtP (ptL a ws.sum ws))[t]?=some p:=⟨_,List.getElem?_eq_getElem (by omega)⟩
    have hb:=ab_bd h0 ((put_mem hput).1 (List.mem_of_getElem? hp))
    obtain ⟨y,k1,k2,k3⟩:=bump_next ha hl h0 hput rfl ht hp
    refine ⟨p,hp,by omega,best_of h0 hput hp,?_,y,k1,k2,k3⟩
    rw [List.take_add_one,hp]
    exact abT_snoc _ _ _
end Go.Proofs.YtjhhmeoibfdcmaaGreat
namespace Go.Proofs.YtjhhmeoibfdcmaaGreat
open Go.ChangeShapes Go.WideShapes Go.ChangeAt Go.RowKit Qd
theorem own:ownKnob Tryz.prog.godebug=none:=by kernel_rfl
theorem laidOut:laidOutB Tryz.prog=true:=by kernel_rfl
section
variable {H:Type} {enc:TypeId × Value→H} {P:Program}
theorem post_of_below {f:Func} {s:ChangeSpec} {apart fresh handsOn again:Bool} {W W':World} {args:Array Value} {v:Value} {ds gs:List (DataW H)} {before pa pv:List MemPlace}
    (hW:DataW.Whole enc P f.params.toList s.vars apart W args.toList ds gs before)
    (hres:∀ (b:Nat) (sp:Nat→Bool) (hd:Bool),DataW.TrodAll enc P W' b sp hd f.resultTypes.toList (v.resultList f.resultTypes.size) (s.fn H (ds++gs)).results [])
    (hargs:∀ sp:Nat→Bool,(∀ p∈before,sp p.block=true)→DataW.TrodAll enc P W' 0 sp true f.params.toList args.toList (s.fn H (ds++gs)).args pa)
    (hvars:∀ sp:Nat→Bool,(∀ p∈before,sp p.block=true)→DataW.TrodVars enc P W' sp s.vars (s.fn H (ds++gs)).vars pv)
    (hps:before=pa++pv) (hb:Below W.heap.size W W')
    (hok:∀ (j:Nat) (t:TypeId) (r:Value),f.resultTypes[j]?=some t→(v.resultList f.resultTypes.size)[j]?=some r→Value.okWide P W' .any 0 t r) :
    s.post enc P f apart fresh handsOn again W args v W':=by
  have hlt:∀ p∈before,p.block<W.heap.size:=fun p hp=>hW.lt p hp
  have hold:∀ p∈before,(fun b=>decide (b<W.heap.size)) p.block=true:=fun p hp=>by simpa using hlt p hp
  refine ⟨ds,gs,before,[],pa,pv,hW,hres _ _ _,hargs _ hold,hvars _ hold,World.keptBut_mono (fun p hp=>⟨hp,?_⟩) (hb.frame (· ∈ before)),fun _=>?_⟩
  · rw [hps,List.mem_append] at hp
    exact Or.inr hp
  · obtain ⟨_,_,_,_,_,hz,hn⟩:=hW
    refine ⟨hok,_,_,([]++pa)++pv,⟨[]++pa,pv,trodAll_append (hargs _ (fun _ _=>rfl)) (hres _ _ _),hvars _ (fun _ _=>rfl),rfl,?_,?_⟩,?_⟩
    · intro b off hp
      have hin:MemPlace.cell b off∈before:=by rw [hps];simpa using hp
      rw [hb.frozen (hlt _ hin)]
      exact hz b off hin
    · intro ha
      have:=hn ha
      rw [hps] at this
      simpa using this
    · intro p hp _
      rw [hps]
      simpa using hp
theorem trodAll_stays (hl:laidOutB P=true) {W W':World} {sp':Nat→Bool}:∀ {ts:List TypeId} {vs:List Value} {ds:List (DataW H)} {ps:List MemPlace},
    (∀ t∈ts,P.readableRec t=true∧t<P.types.size)→DataW.TrodAll enc P W 0 (fun _=>true) true ts vs ds ps→(∀ p∈ps,W.sameAt W' p)→(∀ p∈ps,sp' p.block=true)→DataW.TrodAll enc P W' 0 sp' true ts vs ds ps
  | [],[],[],_,_,h,_,_=>h
  | t::_,_::_,_::_,_,hT,⟨p,q,h1,h2,e⟩,hm,hs =>
    ⟨p,q,WideElems.Trod_stays hl (hT t (List.mem_cons.2 (Or.inl rfl))).1 (hT t (List.mem_cons.2 (Or.inl rfl))).2 h1 (fun x hx=>hm x (by rw [e];exact List.mem_append_left _ hx)) (fun x hx=>hs x (by rw [e];exact List.mem_append_left _ hx)),
      trodAll_stays hl (fun t ht=>hT t (List.mem_cons.2 (Or.inr ht))) h2 (fun x hx=>hm x (by rw [e];exact List.mem_append_right _ hx)) (fun x hx=>hs x (by rw [e];exact List.mem_append_right _ hx)),e⟩
end
section
variable {H:Type} {enc:TypeId × Value→H} {w:World} {base:Nat} {spare:Nat→Bool} {held:Bool}
theorem cells_int:Tryz.prog.cellsOf 3=1:=by kernel_rfl
theorem cells_str:Tryz.prog.cellsOf 9=1:=by kernel_rfl
theorem cells_pat:Tryz.prog.cellsOf 22=3:=by kernel_rfl
theorem cells_cal:Tryz.prog.cellsOf 24=14:=by kernel_rfl
def wf64 (x:Int):Prop:=(Lit.int .i64 x).wf=true
def CalWf (c:Cal):Prop:=wf64 c.kind∧wf64 c.day∧wf64 c.month∧wf64 c.shift∧wf64 c.shape∧wf64 c.p0∧wf64 c.p1∧wf64 c.p2∧wf64 c.cycle∧wf64 c.extra∧wf64 c.first∧wf64 c.last∧wf64 c.policy
theorem wf64_bd {x:Int} (h:wf64 x):-9223372036854775808≤x∧x≤9223372036854775807:=by
  simpa [wf64,Lit.wf,IntKind.min,IntKind.max,IntKind.signed,IntKind.bits] using h
theorem open_cal {r:Reach} {b0:Nat} {v:Value} {d:DataW H} {p:List MemPlace} (hv:Value.okWide Tryz.prog w r b0 24 v) (h:DataW.Trod enc Tryz.prog w base spare held 24 v d p) :
    ∃ c:Cal,v=calV c∧c.name.size≤9223372036854775807∧CalWf c:=by
  obtain ⟨cs,rfl,hsz⟩:=okWide_struct Tryz.underlying24 hv
  rw [cells_cal] at hsz
  obtain ⟨l⟩:=cs
  match l,hsz with
  | [c0,c1,c2,c3,c4,c5,c6,c7,c8,c9,c10,c11,c12,c13],_ =>
    obtain ⟨fuel,hf⟩:=h
    obtain ⟨xs,n,_,hx,_,hlen,hg⟩:=DataW.trod_struct Tryz.underlying24 hf
    match xs,hlen with
    | [y0,y1,y2,y3,y4,y5,y6,y7,y8,y9,y10,y11],_ =>
      have g0:=hg 0 _ rfl
      have g1:=hg 1 _ rfl
      have g2:=hg 2 _ rfl
      have g3:=hg 3 _ rfl
      have g4:=hg 4 _ rfl
      have g5:=hg 5 _ rfl
      have g6:=hg 6 _ rfl
      have g7:=hg 7 _ rfl
      have g8:=hg 8 _ rfl
      have g9:=hg 9 _ rfl
      have g10:=hg 10 _ rfl
      have g11:=hg 11 _ rfl
      simp [Value.cells,cells_int,cells_str,cells_pat] at g0 g1 g2 g3 g4 g5 g6 g7 g8 g9 g10 g11
      obtain ⟨x0,e0,_,s0⟩:=DataW.trod_string Tryz.underlying9 g0
      obtain ⟨x1,e1,_,s1⟩:=DataW.trod_int Tryz.underlying3 g1
      obtain ⟨x2,e2,_,s2⟩:=DataW.trod_int Tryz.underlying3 g2
      obtain ⟨x3,e3,_,s3⟩:=DataW.trod_int Tryz.underlying3 g3
      obtain ⟨x4,e4,_,s4⟩:=DataW.trod_int Tryz.underlying3 g4
      obtain ⟨x5,e5,_,s5⟩:=DataW.trod_int Tryz.underlying3 g5
      obtain ⟨zs,m,_,_,_,hzl,hz⟩:=DataW.trod_array Tryz.underlying22 g6
      obtain ⟨x9,e9,_,s9⟩:=DataW.trod_int Tryz.underlying3 g7
      obtain ⟨x10,e10,_,s10⟩:=DataW.trod_int Tryz.underlying3 g8
      obtain ⟨x11,e11,_,s11⟩:=DataW.trod_int Tryz.underlying3 g9
      obtain ⟨x12,e12,_,s12⟩:=DataW.trod_int Tryz.underlying3 g10
      obtain ⟨x13,e13,_,s13⟩:=DataW.trod_int Tryz.underlying3 g11
      match zs,hzl with
      | [z0,z1,z2],_ =>
        have k0:=hz 0 (by omega)
        have k1:=hz 1 (by omega)
        have k2:=hz 2 (by omega)
        simp [cells_int] at k0 k1 k2
        obtain ⟨x6,e6,_,s6⟩:=DataW.trod_int Tryz.underlying3 k0
        obtain ⟨x7,e7,_,s7⟩:=DataW.trod_int Tryz.underlying3 k1
        obtain ⟨x8,e8,_,s8⟩:=DataW.trod_int Tryz.underlying3 k2
        simp only [List.cons.injEq,and_true] at e0 e1 e2 e3 e4 e5 e6 e7 e8 e9 e10 e11 e12 e13
        subst e0 e1 e2 e3 e4 e5 e6 e7 e8 e9 e10 e11 e12 e13
        exact ⟨⟨x0,x1,x2,x3,x4,x5,x6,x7,x8,x9,x10,x11,x12,x13⟩,rfl,by simpa [maxLen] using s0,s1,s2,s3,s4,s5,s6,s7,s8,s9,s10,s11,s12,s13⟩
end
end Go.Proofs.YtjhhmeoibfdcmaaGreat
namespace Go.Proofs.YtjhhmeoibfdcmaaGreat
open Go.ChangeShapes Go.WideShapes Go.ChangeAt Go.RowKit Qd
section
variable {H:Type} {enc:TypeId × Value→H} {base:Nat} {spare:Nat→Bool} {held:Bool}
theorem cells_unit:Tryz.prog.cellsOf 26=3:=by kernel_rfl
def UnWf (u:Un):Prop:=wf64 u.lv∧wf64 u.yr∧wf64 u.ix
def SpWf (s:Sp):Prop:=wf64 s.a∧wf64 s.b
theorem open_unit {w:World} {r:Reach} {b0:Nat} {v:Value} {d:DataW H} {p:List MemPlace} (hv:Value.okWide Tryz.prog w r b0 26 v) (h:DataW.Trod enc Tryz.prog w base spare held 26 v d p) :
    ∃ u:Un,v=unitV u∧UnWf u:=by
  obtain ⟨cs,rfl,hsz⟩:=okWide_struct Tryz.underlying26 hv
  rw [cells_unit] at hsz
  obtain ⟨l⟩:=cs
  match l,hsz with
  | [c0,c1,c2],_ =>
    obtain ⟨fuel,hf⟩:=h
    obtain ⟨xs,n,_,hx,_,hlen,hg⟩:=DataW.trod_struct Tryz.underlying26 hf
    match xs,hlen with
    | [y0,y1,y2],_ =>
      have g0:=hg 0 _ rfl
      have g1:=hg 1 _ rfl
      have g2:=hg 2 _ rfl
      simp [Value.cells,cells_int] at g0 g1 g2
      obtain ⟨x0,e0,_,s0⟩:=DataW.trod_int Tryz.underlying3 g0
      obtain ⟨x1,e1,_,s1⟩:=DataW.trod_int Tryz.underlying3 g1
      obtain ⟨x2,e2,_,s2⟩:=DataW.trod_int Tryz.underlying3 g2
      simp only [List.cons.injEq,and_true] at e0 e1 e2
      subst e0 e1 e2
      exact ⟨⟨x0,x1,x2⟩,rfl,s0,s1,s2⟩
end
end Go.Proofs.YtjhhmeoibfdcmaaGreat
