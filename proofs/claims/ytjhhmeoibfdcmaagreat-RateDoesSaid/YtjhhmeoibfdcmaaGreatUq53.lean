/- The references of layers 4 and 21: exact shares, and when lists are the same: the walks. -/
import Derived.Test.YtjhhmeoibfdcmaaGreatUq43
import Derived.Test.YtjhhmeoibfdcmaaGreatUq51
import Derived.Test.YtjhhmeoibfdcmaaGreatUq52
set_option linter.unusedSimpArgs false
set_option linter.unusedVariables false
set_option maxRecDepth 100000
set_option maxHeartbeats 12800000
namespace Go.Proofs.YtjhhmeoibfdcmaaGreat
open Go.RowKit Qd
theorem exsL_take {a:Int} {ws:List Int} {j:Nat} {x:Int} (h:ws[j]?=some x):(exsL a ws).take (j+1)=(exsL a ws).take j++[exQ a ws.sum x]:=by
  have e:(exsL a ws)[j]?=some (exQ a ws.sum x):=by simp [exsL,h]
  rw [List.take_add_one,e];rfl
theorem r04exact_any (a:Int) (v:Value) (ws:List Int) (w:World) (ha:in64 a) (hv:Nums w v ws) (hl:∀ x∈ws,0≤x) (hn:ws.length≤4096) (h0:0<ws.sum) (hs:ws.sum<4294967296) :
    Calls Tryz.prog 68 #[.int .i64 a,v] w (ExPost a ws w):=by
  have hle:=pos_sum hl
  have h64:∀ x∈ws,in64 x:=fun x hx=>by have h1:=hl x hx;have h2:=hle x hx;unfold in64;omega
  have HAL:=hide (fun W (h:Nums W v ws)=>r04all_yes v ws W h hl hn h64 (by unfold in64;omega) h0)
  have HF:=hide (fun x (hx:x∈ws)=>ex_facts (hl x hx) (hle x hx) h0 hs)
  have HV:=hide hv
  obtain ⟨ad,cap,rfl,hc⟩:=hv
  have HE0:=hide (show exsE a ws=exsR a ws.sum ws from rfl)
  have HLN:=hide (exsL_len a ws)
  have HG:=hide (fun (j:Nat) (x:Int) (h:ws[j]?=some x)=>exsL_take (a:=a) h)
  have HMK:=hide (fun (x:Int) (hx:x∈ws) (W:World)=>show Calls Tryz.prog 116 #[.int .i64 x,.int .i64 ws.sum] W fun e w'=>e=.returned (.tuple #[ratV ((x.toNat / Nat.gcd x.toNat ws.sum.toNat:Nat):Int) ((ws.sum.toNat / Nat.gcd x.toNat ws.sum.toNat:Nat):Int),.int .i64 0])∧Below W.heap.size W w' from by
    obtain ⟨e1,e2,f1,f2,f3,f4,f5,f6,f7⟩:=HF.out x hx
    have h:=r03make_yes x.toNat ws.sum.toNat W f1 (by omega) (by omega)
    rwa [← e1,← e2] at h)
  have HML:=hide (fun (x:Int) (hx:x∈ws) (W:World)=>show Calls Tryz.prog 117 #[ratV a 1,ratV ((x.toNat / Nat.gcd x.toNat ws.sum.toNat:Nat):Int) ((ws.sum.toNat / Nat.gcd x.toNat ws.sum.toNat:Nat):Int)] W fun e w'=>e=.returned (.tuple #[exV a (x.toNat / Nat.gcd x.toNat ws.sum.toNat) (ws.sum.toNat / Nat.gcd x.toNat ws.sum.toNat),.int .i64 (fitE (exQ a ws.sum x).1)])∧Below W.heap.size W w' from by
    obtain ⟨e1,e2,f1,f2,f3,f4,f5,f6,f7⟩:=HF.out x hx
    exact r03mul_any a _ _ W ha (by omega) f4 f5 f7)
  have HEV:=hide (fun (x:Int)=>exV_get a ws.sum x)
  have HEN:=hide (fun (x:Int) (h:¬ fitE (exQ a ws.sum x).1=0)=>show exV a (x.toNat / Nat.gcd x.toNat ws.sum.toNat) (ws.sum.toNat / Nat.gcd x.toNat ws.sum.toNat)=.agg #[.int .i64 0,.int .i64 0] from by
    have h':¬ fitE (exN a (x.toNat / Nat.gcd x.toNat ws.sum.toNat) (ws.sum.toNat / Nat.gcd x.toNat ws.sum.toNat))=0:=h
    unfold exV
    rw [if_neg h'];rfl)
  obtain ⟨S,hS⟩:∃ S,ws.sum=S:=⟨_,rfl⟩
  rw [hS] at HAL HE0 HG HMK HML HEV HEN
  obtain ⟨L,hL⟩:∃ L,exsL a ws=L:=⟨_,rfl⟩
  rw [hL] at HG HLN
  obtain ⟨EE,hEE⟩:∃ E,exsE a ws=E:=⟨_,rfl⟩
  rw [hEE] at HE0
  unfold ExPost
  rw [hL,hEE]
  clear hc hl h64 hs h0 hle hS hL hEE HF
  simp only [ratV] at HMK HML
  go_enter Tryz.func68,Tryz.ntmps68
  go_wp2_with fail
  refine (HAL.out _ HV.out).mono ?_
  rintro e w1 ⟨rfl,hb1⟩
  have HB1:=hide hb1
  have HV1:=hide (HV.out.call hb1)
  have hle1:=hb1.size
  clear hb1
  go_wp2_with fail
  go_loopw [8,25] (fun s8 s25 wr=>∃ j:Nat,s25=.int .i64 j∧j≤ws.length∧exsR a S (ws.take j)=0∧Hid (OwnQ wr w1.heap.size s8 (L.take j)∧Below w1.heap.size w1 wr)) (fun _ s25 _=>(ws.length+5-intOf s25).toNat)
  case atStart=>exact ⟨0,rfl,Nat.zero_le _,rfl,hide ⟨World.ownsRow_nil _ _ _ _,Below.refl _ _⟩⟩
  case round =>
    obtain ⟨j,rfl,hj,htt,HQ⟩:=hrel
    have HTT:=hide htt
    have hle:=HQ.out.2.size
    clear htt
    by_cases hlt:j<ws.length
    · obtain ⟨x,hx⟩:∃ x,ws[j]?=some x:=⟨_,List.getElem?_eq_getElem hlt⟩
      obtain ⟨ad',cap',e,hc⟩:=HV1.out.call HQ.out.2
      cases e
      obtain ⟨g,o,rfl,hg,a0⟩:=hc j x hx
      have hi1:(0:Int)≤(j:Int):=by omega
      have hi3:(j:Int)<(ws.length:Int):=by omega
      have HX:=hide (List.mem_of_getElem? hx)
      have HGX:=hide (HG.out j x hx)
      have HMKx:=hide (HMK.out x HX.out)
      have HMLx:=hide (HML.out x HX.out)
      have HEVx:=hide (HEV.out x)
      have HENx:=hide (HEN.out x)
      have HTK:=hide (fun h=>exsR_take hx HTT.out h)
      have HNO:=hide (fun h=>HE0.out.trans (exsR_no hx HTT.out h))
      obtain ⟨X,hXX⟩:∃ X,x.toNat / Nat.gcd x.toNat S.toNat=X:=⟨_,rfl⟩
      obtain ⟨D,hDD⟩:∃ X,S.toNat / Nat.gcd x.toNat S.toNat=X:=⟨_,rfl⟩
      rw [hXX,hDD] at HMKx HMLx HEVx HENx
      clear hc hx hXX hDD
      go_wp2_with fail
      all_goals first
        | (exfalso;omega)
        | skip
      refine (HMKx.out _).mono ?_
      rintro e w2 ⟨rfl,hb2⟩
      have HQ2:=hide (show OwnQ w2 w1.heap.size u8 (L.take j)∧Below w1.heap.size w1 w2 from ⟨ownQ_call HQ.out.1 hb2,HQ.out.2.trans (hb2.mono HQ.out.2.size)⟩)
      have hle2:w1.heap.size≤w2.heap.size:=HQ2.out.2.size
      clear hb2 a0 hg
      go_wp2_with fail
      refine (HMLx.out _).mono ?_
      rintro e w3 ⟨rfl,hb3⟩
      have HQ3:=hide (show OwnQ w3 w1.heap.size u8 (L.take j)∧Below w1.heap.size w1 w3 from by
        have h:=(ww (n:=w2.heap.size) (w:=w2) hb3).out
        exact ⟨ownQ_call HQ2.out.1 h,HQ2.out.2.trans (h.mono HQ2.out.2.size)⟩)
      have hle3:w1.heap.size≤w3.heap.size:=HQ3.out.2.size
      clear hb3
      by_cases hT:fitE (exQ a S x).1=0
      rotate_left
      · have HE:=hide (HNO.out hT)
        have hE:(fitE (exQ a S x).1 != 0)=true:=by simpa using hT
        have hev:=HENx.out hT
        have hBW:Below w.heap.size w w3:=HB1.out.trans (HQ3.out.2.mono hle1)
        have hlw:=hBW.size
        have HT:=hide hT
        rw [hev]
        obtain ⟨E,hEE⟩:∃ E,fitE (exQ a S x).1=E:=⟨_,rfl⟩
        rw [hEE] at HE hE HT ⊢
        clear hT hEE hev
        go_wp2
        go_ret2
        exact ⟨⟨.slice none 0 0,by rw [HE.out];rfl,fun h=>absurd (HE.out.symm.trans h) HT.out,fun _=>rfl⟩,by (repeat' exact bel)⟩
      have HT2:=hide (HTK.out hT)
      rw [hT,HEVx.out hT]
      obtain ⟨⟨y1,y2⟩,hy⟩:∃ y,exQ a S x=y:=⟨_,rfl⟩
      rw [hy] at HGX ⊢
      clear hT hy
      go_wp2_with ((at_builtin;refine app_rt rfl _ _ rfl w1.heap.size _ (L.take j) (y1,y2) (w3.heap.size+1) rfl (ownQ_call HQ3.out.1 (by (repeat' exact bel))) rfl ?hbk (by rw [List.length_take];omega) (by simp;omega) ?_))
      case hbk=>simpa using BlkIs.new (w3.alloc (.cells #[.int .i64 y1,.int .i64 y2] 125)) #[.int .i64 y1,.int .i64 y2] 125
      intro v' w5 ho5 hb5
      have key:∀ W,Below w3.heap.size w3 W→Below w1.heap.size W w5→Below w1.heap.size w1 w5:=fun W h1 h2=>(HQ3.out.2.trans (h1.mono hle3)).trans h2
      have HN:=hide (show OwnQ w5 w1.heap.size v' (L.take (j+1))∧Below w1.heap.size w1 w5 from ⟨by rw [HGX.out];exact ho5,key _ (by (repeat' exact bel)) hb5⟩)
      clear ho5 hb5 key
      go_wp2
      go_roundw
      case rel=>exact ⟨j+1,by go_num,by omega,HT2.out,HN⟩
      case measure=>simp [intOf];omega
    · obtain rfl:j=ws.length:=by omega
      have hE:EE=0:=by
        have h:=HTT.out
        rw [List.take_of_length_le (Nat.le_refl _)] at h
        exact HE0.out.trans h
      have HFI:=hide (show Rts wr _ L from by
        have h:=ownQ_rts HQ.out.1
        rwa [List.take_of_length_le (by rw [HLN.out];exact Nat.le_refl _)] at h)
      have HBF:=hide (show Below w.heap.size w wr from HB1.out.trans (HQ.out.2.mono hle1))
      have HE:=hide hE
      clear hE
      go_wp2
      all_goals first
        | (exfalso;omega)
        | skip
      go_ret2
      exact ⟨⟨_,by rw [HE.out];rfl,fun _=>HFI.out,fun h=>absurd HE.out h⟩,HBF.out⟩
theorem r04same_yes (D:List Int) (v1 v2:Value) (w:World) (h1:Nums w v1 D) (h2:Nums w v2 D) (hl:D.length≤100000) :
    Calls Tryz.prog 29 #[v1,v2] w fun e w'=>e=.returned (.bool true)∧Below w.heap.size w w':=by
  have H1:=hide h1
  have H2:=hide h2
  obtain ⟨ad1,cap1,rfl,_⟩:=h1
  obtain ⟨ad2,cap2,rfl,_⟩:=h2
  go_enter Tryz.func29,Tryz.ntmps29
  go_wp2_with fail
  go_loopw [13] (fun s wr=>∃ j:Nat,s=.int .i64 j∧j≤D.length∧Hid (Below w.heap.size w wr)) (fun s _=>(100001-intOf s).toNat)
  case atStart=>exact ⟨0,rfl,Nat.zero_le _,hide (Below.refl _ _)⟩
  case round =>
    obtain ⟨j,rfl,hj,HB⟩:=hrel
    by_cases hlt:j<D.length
    · obtain ⟨x,hx⟩:∃ x,D[j]?=some x:=⟨_,List.getElem?_eq_getElem hlt⟩
      have HX1:=H1.out.call HB.out
      have HX2:=H2.out.call HB.out
      obtain ⟨ad1',cap1',e1,hx1⟩:=HX1
      obtain ⟨g,o,e3,hg,c0⟩:=hx1 j x hx
      obtain ⟨ad2',cap2',e2,hx2⟩:=HX2
      obtain ⟨g',o',e4,hg',d0⟩:=hx2 j x hx
      cases e1
      cases e2
      subst e3
      subst e4
      clear hx hx1 hx2
      have hi3:(0:Int)≤(j:Int):=by omega
      have hi4:(j:Int)<(D.length:Int):=by omega
      have hub:(x != x)=false:=by simp
      go_wp2_with fail
      go_quiet (fail)
      go_wp2
      all_goals first
        | (exfalso;omega)
        | skip
      go_roundw
      case rel=>exact ⟨j+1,by go_num,by omega,hide (below_drewN HB.out _)⟩
      case measure=>simp [intOf];omega
    · go_wp2
      all_goals first
        | (exfalso;omega)
        | skip
      go_ret
      exact ⟨rfl,HB.out⟩
theorem r04ratios_yes (D:List (Int × Int)) (v1 v2:Value) (w:World) (h1:Rts w v1 D) (h2:Rts w v2 D) (hl:D.length≤100000) :
    Calls Tryz.prog 31 #[v1,v2] w fun e w'=>e=.returned (.bool true)∧Below w.heap.size w w':=by
  have H1:=hide h1
  have H2:=hide h2
  obtain ⟨ad1,cap1,rfl,_⟩:=h1
  obtain ⟨ad2,cap2,rfl,_⟩:=h2
  go_enter Tryz.func31,Tryz.ntmps31
  go_wp2_with fail
  go_loopw [13] (fun s wr=>∃ j:Nat,s=.int .i64 j∧j≤D.length∧Hid (Below w.heap.size w wr)) (fun s _=>(100001-intOf s).toNat)
  case atStart=>exact ⟨0,rfl,Nat.zero_le _,hide (Below.refl _ _)⟩
  case round =>
    obtain ⟨j,rfl,hj,HB⟩:=hrel
    by_cases hlt:j<D.length
    · obtain ⟨x,hx⟩:∃ x,D[j]?=some x:=⟨_,List.getElem?_eq_getElem hlt⟩
      have HX1:=H1.out.call HB.out
      have HX2:=H2.out.call HB.out
      obtain ⟨ad1',cap1',e1,hx1⟩:=HX1
      obtain ⟨g,e3,hg,c0,c1⟩:=hx1 j x hx
      obtain ⟨ad2',cap2',e2,hx2⟩:=HX2
      obtain ⟨g',e4,hg',d0,d1⟩:=hx2 j x hx
      cases e1
      cases e2
      subst e3
      subst e4
      clear hx hx1 hx2
      have hi3:(0:Int)≤(j:Int):=by omega
      have hi4:(j:Int)<(D.length:Int):=by omega
      have hub:(!(x.1==x.1&&x.2==x.2))=false:=by simp
      go_wp2_with fail
      go_quiet (fail)
      go_wp2
      all_goals first
        | (exfalso;omega)
        | skip
      go_roundw
      case rel=>exact ⟨j+1,by go_num,by omega,hide (below_drewN HB.out _)⟩
      case measure=>simp [intOf];omega
    · go_wp2
      all_goals first
        | (exfalso;omega)
        | skip
      go_ret
      exact ⟨rfl,HB.out⟩
theorem r21exact_no (c:Cal) (lv a:Int) (s:Sp) (w:World) (hn:c.name.size≤1000) (h:¬ meetsE c lv s=0) :
    Calls Tryz.prog 28 #[calV c,.int .i64 lv,.int .i64 a,spanV s] w fun e w'=>e=.returned (.tuple #[.slice none 0 0,.int .i64 (meetsE c lv s)])∧Below w.heap.size w w':=by
  have HM:=hide (fun w=>r21days_no c lv s w hn h)
  have hE:(meetsE c lv s != 0)=true:=by simpa using h
  obtain ⟨E,hEE⟩:∃ E,meetsE c lv s=E:=⟨_,rfl⟩
  rw [hEE] at HM hE ⊢
  clear h hEE
  simp only [calV,spanV] at HM ⊢
  go_enter Tryz.func28,Tryz.ntmps28
  go_wp2_with fail
  refine (HM.out _).mono ?_
  rintro e w1 ⟨rfl,hb1⟩
  have HB1:Hid (Below w.heap.size w w1):=ww hb1
  clear hb1
  go_wp2
  go_ret2
  exact ⟨rfl,HB1.out⟩
theorem r21exact_yes (c:Cal) (lv a:Int) (s:Sp) (w:World) (hn:c.name.size≤1000) (h:meetsE c lv s=0) (hl:(meetsL c lv s).length≤4096) (ha:in64 a) :
    Calls Tryz.prog 28 #[calV c,.int .i64 lv,.int .i64 a,spanV s] w (ExPost a (dysL c lv s) w):=by
  have HM:=hide (fun w=>r21days_yes c lv s w hn h (by omega))
  have hdf:=dys_facts h
  have hok:=meets_ok h
  have hsd:s.b-s.a+1≤3068037:=by
    have h1:=(fd_ok hok.2.2.2.2.1).2.2.2.2.1
    have h2:=(fd_ok hok.2.2.2.2.2).2.2.2.2.1
    simp [isB] at h1 h2
    omega
  have HSP:=hide (fun v w (hv:Nums w v (dysL c lv s))=>r04exact_any a v (dysL c lv s) w ha hv (fun x hx=>by have:=hdf.2 x hx;omega) (by rw [dysL_len];exact hl) (by rw [hdf.1];omega) (by rw [hdf.1];omega))
  obtain ⟨ws,hws⟩:∃ x,dysL c lv s=x:=⟨_,rfl⟩
  rw [hws] at HM HSP ⊢
  unfold ExPost at HSP ⊢
  obtain ⟨EE,hEE⟩:∃ E,exsE a ws=E:=⟨_,rfl⟩
  obtain ⟨XL,hXL⟩:∃ E,exsL a ws=E:=⟨_,rfl⟩
  rw [hEE,hXL] at HSP ⊢
  clear h hdf hok hsd hl hws hEE hXL
  simp only [calV,spanV] at HM ⊢
  go_enter Tryz.func28,Tryz.ntmps28
  go_wp2_with fail
  refine (HM.out _).mono ?_
  rintro e w1 ⟨⟨x1,rfl,hD⟩,hb1⟩
  have HB1:Hid (Below w.heap.size w w1):=ww hb1
  have HD1:=hide (owns_nums hD)
  have hz1:w.heap.size≤w1.heap.size:=HB1.out.size
  have hvf1:∃ ad n cap,x1=.slice ad n cap:=by
    obtain ⟨ad,cap,h,_⟩:=HD1.out
    exact ⟨_,_,_,h⟩
  obtain ⟨ad1,n1,cap1,rfl⟩:=hvf1
  clear hb1 hD
  go_wp2_with fail
  refine (HSP.out _ _ HD1.out).mono ?_
  rintro e w2 ⟨⟨v,rfl,hv1,hv2⟩,hb2⟩
  have HV:=hide (And.intro hv1 hv2)
  have HB2:Hid (Below w.heap.size w w2):=by have hp:=HB1.out;exact ww hb2
  have hvf:∃ ad n cap,v=.slice ad n cap:=by
    by_cases h0:EE=0
    · obtain ⟨ad,cap,h,_⟩:=hv1 h0
      exact ⟨_,_,_,h⟩
    · exact ⟨_,_,_,hv2 h0⟩
  obtain ⟨ad5,n5,cap5,rfl⟩:=hvf
  clear hv1 hv2 hb2
  go_wp2
  go_ret2
  exact ⟨⟨.slice ad5 n5 cap5,rfl,HV.out.1,HV.out.2⟩,HB2.out⟩
end Go.Proofs.YtjhhmeoibfdcmaaGreat
