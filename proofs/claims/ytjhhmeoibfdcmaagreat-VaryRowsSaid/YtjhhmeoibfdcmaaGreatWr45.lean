/- Lemmas. -/
import Derived.Test.YtjhhmeoibfdcmaaGreatWr37
import Derived.Test.YtjhhmeoibfdcmaaGreatWr43
import Derived.Test.YtjhhmeoibfdcmaaGreatWr44
set_option linter.unusedSimpArgs false
set_option linter.unusedVariables false
set_option maxRecDepth 100000
set_option maxHeartbeats 12800000
namespace Go.Proofs.YtjhhmeoibfdcmaaGreat
section
open Go.RowKit Qd
abbrev lM (w:World) (b:Nat) (v:Value) (D:List (Un × Int)):Prop:=w.ownsRow b 111 4 v D.length (D.flatMap oj)
def sf (w h:World):Prop:=w.heap.size≤h.heap.size∧∀ (B:Nat) (f:Array Value) (t:TypeId),t≠111→w.heap[B]?=some (.cells f t (0,0))→h.heap[B]?=some (.cells f t (0,0))
theorem sf.blk {w o:World} {B:Nat} {f:Array Value} {t:TypeId} (E:sf w o) (h:ap w B f t) (F:t≠111:=by decide):ap o B f t:=E.2 B f t F h
theorem sf.ownI {w F:World} {b:Nat} {v:Value} {l:List Int} (R:sf w F) (h:cw w b v l):cw F b v l:=by
 refine ⟨h.1,?_⟩;rcases h.2 with H | ⟨G,f,o,O,I,E,J⟩
 ·exact .inl H
 ·exact .inr ⟨G,f,o,O,I,R.2 _ _ _ ag E,J⟩
theorem iy {w G:World} {b:Nat} {v:Value} {l:List (Un × Int)} (h:lM w b v l) (O:Below w w G):lM G b v l:=by
 refine ⟨h.1,?_⟩;rcases h.2 with H | ⟨F,f,E,R,I,o,J⟩
 ·exact .inl H
 ·exact .inr ⟨F,f,E,R,I,(O.block F (Array.getElem?_eq_some_iff.1 o).1).trans o,J⟩
theorem Cz {w:World} {b E:Nat} {v:Value} {l:List (Un × Int)} (h:lM w b v l) (J:E≤b):lM w E v l:=by
 refine ⟨h.1,?_⟩;rcases h.2 with G | ⟨F,f,o,O,H,I⟩
 ·exact .inl G
 ·exact .inr ⟨F,f,o,O,Nat.le_trans J H,I⟩
theorem yf {O:Array Oper} {o:Oper} {a:Act} {K:Act→World→Prop} {Q:Exit→Act→World→Prop} {E:Prop} (U:o.guard=none) (s x:Operand)
  (ho:o.op=.call { callee:=.builtin .append,args:=#[s,x],argTypes:=#[56,56] }) (f:Nat) (v:Value) (m:List (Un × Int)) (u:Un) (n:Int) (B:Nat) (w:World)
  (hs:a.eval s=v) (H:lM w f v m) (hx:a.eval x=.slice (some ⟨B,0,none⟩) 1 1) (I:ap w B #[u.lv,u.yr,u.ix,n] 111) (ay:m.length≤100000) (G:f≤w.heap.size)
  (h:∀ v' J,lM J f v' (m++[(u,n)])→Below f w J→sf w J→K (a.put o.dst v') J):if Region.wanted o (yielded O a.tmps)=true then Oper.wp Tryz.prog o a w K Q else E:=by
 have hw:Region.wanted o (yielded O a.tmps)=true:=by simp [Region.wanted,U]
 rw [if_pos hw];obtain ⟨i0,hi,V,W,ab⟩:=info_parts Ae;have aq:∀ D:List (Un × Int),(D.flatMap oj).length=D.length*4:=by
  intro D
  induction D with
  | nil=>rfl
  | cons x D ih=>simp only [List.flatMap_cons,List.length_append,List.length_cons,ih,oj,List.length_nil];omega
 refine wp_append_own w s x 56 ho f 111 i0 (.agg #[.int .i64 0,.int .i64 0,.int .i64 0,.int .i64 0]) 4 32 Tryz.underlying56 hi V W ab rfl ag v m.length (m.flatMap oj) hs H ⟨B,0,none⟩ 1 1 (oj (u,n)) hx rfl ?_ ?_ (by unfold maxLen;omega) om G ?_
 ·intro j y F
  match j,F with
  | 0,F=>simp [oj] at F;subst F;simpa [Addr.add] using I.cell 0
  | 1,F=>simp [oj] at F;subst F;simpa [Addr.add] using I.cell 1
  | 2,F=>simp [oj] at F;subst F;simpa [Addr.add] using I.cell 2
  | 3,F=>simp [oj] at F;subst F;simpa [Addr.add] using I.cell 3
 ·intro y hy
  simp [oj] at hy;rcases hy with rfl | rfl | rfl | rfl <;> rfl
 ·intro v' J ad T _
  refine h v' J (by unfold lM;rw [List.length_append,List.flatMap_append];simpa using ad) ((Below.refl f w).grown T G fun k hk=>(H.lt k hk).1) ⟨T.size,fun B cs t ht I=>(T.block B (Array.getElem?_eq_some_iff.1 I).1 (fun e=>?_)).trans I⟩;rcases H.2 with ⟨R,_⟩ | ⟨g',ah,al,R,_,S,_⟩
  ·rw [R] at e;simp [Value.ownBlock] at e
  ·rw [R] at e
   obtain rfl:B=g':=by simpa [Value.ownBlock] using e
   rw [S] at I;cases I;exact ht rfl
theorem uf (c:ar) (lv a:Int) (s:Sp) (f:List Un) (DL O:List Int) (w:World) (hl:f.length≤100000) (J:O.length=f.length)
    (HM:Hid (∀ W,Calls Tryz.prog 63 #[av c,lv,bI s] W fun e o=>∃ g cap,e=.returned (.tuple #[.slice (some ⟨g,0,none⟩) f.length cap,.int .i64 0])∧de o g cap f∧Below W W o))
    (aA:Hid (∀ W,Calls Tryz.prog 24 #[av c,lv,bI s] W fun e o=>(∃ x,e=.returned (.tuple #[x,.int .i64 0])∧cw o W x DL)∧Below W W o))
    (bw:Hid (∀ W x,iJ W x DL→Calls Tryz.prog 66 #[a,x] W fun e o=>(∃ x,e=.returned (.tuple #[x,.int .i64 0])∧cw o W x O)∧Below W W o)) :
    Calls Tryz.prog 26 #[av c,lv,a,bI s] w fun e o=>(∃ x,e=.returned (.tuple #[x,.int .i64 0])∧lM o w.heap.size x (f.zip O))∧Below w w o:=by
  have H0:=hide (show aG ((w.alloc (bG c)).alloc (jB s)) w.heap.size c∧lQ ((w.alloc (bG c)).alloc (jB s)) (w.heap.size+1) s from ⟨az (au w c) ac _,sr w c s⟩);have b2:=hide (show (f.zip O).length=f.length by rw [List.length_zip];omega);simp only [av,bI] at HM aA;simp only [av];go_enter Tryz.func26,Tryz.ntmps26;go_wp2_with fail;refine (aA.out _).mono ?_;rintro e w1 ⟨⟨xd,rfl,ba⟩,H⟩;have E:=hide (show aG w1 w c∧lQ w1 (w+1) s∧w.heap.size+1<w1.heap.size∧Below w w w1 from ⟨aa H ae H0.out.1,bu H ac H0.out.2,by have:=H.size;simp at this;omega,(ww H).out⟩);have bX:=hide (jP ba);clear ba H;go_wp2_with fail;refine (bw.out _ _ bX.out).mono ?_;rintro e w2 ⟨⟨xn,rfl,bb⟩,I⟩;have F:=hide (show aG w2 w c∧lQ w2 (w+1) s∧w.heap.size+1<w2.heap.size∧Below w w w2 from ⟨aa I (by have:=E.out.2.2.1;omega) E.out.1,bu I E.out.2.2.1 E.out.2.1,Nat.lt_of_lt_of_le E.out.2.2.1 I.size,E.out.2.2.2.trans (I.mono E.out.2.2.2.size)⟩);have bl:=hide (rZ bb (Nat.zero_le _));clear bb I;obtain ⟨q0,q1,q2,q3,q4,q5,q6,q7,q8,q9,b7,b8,b9,ca⟩:=F.out.1;obtain ⟨b0,b1⟩:=F.out.2.1;have b6:=F.out.2.2.1;have b5:w.heap.size<w2.heap.size:=om;go_wp2_with fail;refine (HM.out _).mono ?_;rintro e T ⟨gm,cl,rfl,a8,al⟩;have aF:=hide (dC bl.out al);have bx:=hide a8;have U:=hide (F.out.2.2.2.trans (al.mono F.out.2.2.2.size));clear a8 al q0 q1 q2 q3 q4 q5 q6 q7 q8 q9 b7 b8 b9 ca b0 b1 b6 b5;go_wp2_with fail;go_loopw [15,46] (fun cb si wr=>∃ j:Nat,si=.int .i64 j∧j≤f.length∧lM wr T.heap.size cb ((f.zip O).take j)∧Below T T wr) (fun _ si _=>(100001-intOf si).toNat)
  case atStart=>exact ⟨0,rfl,Nat.zero_le _,World.ownsRow_nil _ _ _ _,Below.refl _ _⟩
  case round =>
    obtain ⟨j,rfl,hj,hO,aq⟩:=hrel;have HO:=hide hO;have S:=hide aq;have a5:=aq.size;clear hO aq;by_cases b4:j<f.length
    · obtain ⟨u,hu⟩:∃ u,f[j]?=some u:=⟨_,List.getElem?_eq_getElem b4⟩
      obtain ⟨n,hn⟩:∃ n,O[j]?=some n:=⟨_,List.getElem?_eq_getElem om⟩;have HT:=hide (show (f.zip O).take (j+1)=(f.zip O).take j++[(u,n)] by
        rw [List.take_add_one,(List.getElem?_zip_eq_some (z:=(u,n))).2 ⟨hu,hn⟩];rfl)
      obtain ⟨gN,cc,eN,_⟩:=World.ownsRow.form aF.out om;rw [J] at eN;subst eN;have hN:=dC aF.out S.out;have ah:=bx.out.call S.out;obtain ⟨a0,a1,a2⟩:=ah.cell hu;have cs:=(ah.lt om).1;obtain ⟨c1,_⟩:=fI hN J.symm hn;have b3:=(hN.lt gN rfl).2;have cE:(j:Int)<(f.length:Int):=om;have cy:(0:Int)≤(j:Int):=om;obtain ⟨R,ay⟩:∃ W,wr.alloc (.cells #[.int .i64 u.lv,.int .i64 u.yr,.int .i64 u.ix] 26)=W:=⟨_,rfl⟩;have G:=hide (show Below wr wr R by rw [← ay];exact bel);have ad:=hide (show ap R wr #[.int .i64 u.lv,.int .i64 u.yr,.int .i64 u.ix] 26 by rw [← ay];exact ap.new _ _ _);have bp:=hide (iy HO.out G.out);have ab:=hide (dC hN G.out);have bc:=hide (S.out.trans (G.out.mono a5));clear hN ah;go_wp2_with fail;clear ay a0 a1 a2 c1;obtain ⟨⟨d0,d1,d2⟩,cI⟩:=dw ad.out;have c1:=(fI ab.out J.symm hn).1;have cr:T.heap.size≤R.heap.size:=Nat.le_trans a5 G.out.size;have cp:gN<R.heap.size:=Nat.lt_of_lt_of_le b3 G.out.size;have aB:=hide hn;clear hn hu;have V:=hide trivial
      go_region_held3 (fun o=>(o.cell? ⟨wr,0,none⟩=some (.int .i64 u.lv)∧o.cell? ⟨wr,1,none⟩=some (.int .i64 u.yr)∧o.cell? ⟨wr,2,none⟩=some (.int .i64 u.ix))∧o.cell? ⟨gN,j,none⟩=some (.int .i64 n))
        (first
        | exact ⟨(dw (V.out.blk (ad.out.alloc _))).1,(fI (V.out.ownI (dC ab.out an)) J.symm aB.out).1⟩
        | exact ⟨(dw (ad.out.call an)).1,(fI (dC ab.out an) J.symm aB.out).1⟩)
        (first
        | (refine yf rfl (.tmp 51) (.tmp 58) rfl T.heap.size u15 ((f.zip O).take j) u n R.heap.size (R.alloc (.cells #[.int .i64 u.lv,.int .i64 u.yr,.int .i64 u.ix,.int .i64 n] 111)).drew (by simp [Act.eval,Act.put]) (iy bp.out an) (by simp [Act.eval,Act.put]) (show ap (R.alloc (.cells #[.int .i64 u.lv,.int .i64 u.yr,.int .i64 u.ix,.int .i64 n] 111)).drew R.heap.size #[.int .i64 u.lv,.int .i64 u.yr,.int .i64 u.ix,.int .i64 n] 111 from ap.new _ _ _) (by rw [List.length_take];omega) ae ?_;intro v5 w5 a7 a3 a4;have V:=hide (show sf (R.alloc (.cells #[.int .i64 u.lv,.int .i64 u.yr,.int .i64 u.ix,.int .i64 n] 111)) w5 from a4);have bt:=hide a7;have bd:=hide ((show Below T T (R.alloc (.cells #[.int .i64 u.lv,.int .i64 u.yr,.int .i64 u.ix,.int .i64 n] 111)).drew by have hx:=bc.out;exact bel).trans a3);clear a7 a3 a4)
        | fail)
      all_goals
        go_wp2;go_roundw
        case rel=>exact ⟨j+1,by go_num,by omega,by rw [HT.out];exact bt.out,bd.out⟩
        case measure=>simp [intOf];omega
    · have HF := hide (show lM wr T.heap.size u15 (f.zip O) by
        have h:=HO.out
        rwa [List.take_of_length_le (by rw [b2.out];omega)] at h)
      have bh:=hide (U.out.trans (S.out.mono U.out.size));have a6:=U.out.size;go_wp2
      all_goals first
        | (exfalso;omega)
        | (go_ret2;exact ⟨⟨_,rfl,Cz HF.out a6⟩,bh.out⟩)
theorem zS (c:ar) (lv y:Int) (w:World) (G:c.name.size≤1000) (o:aI c lv y=0) :
  Calls Tryz.prog 64 #[av c,lv,y] w fun e f=>∃ g cap,e=.returned (.tuple #[.slice (some ⟨g,0,none⟩) (aR c y lv) cap,.int .i64 0])∧w.heap.size≤g∧kl c lv y g f∧Below w w f:=by
 refine (cF c lv y w G o).mono ?_;rintro e f ⟨g,cap,rfl,F,_,h,E⟩;exact ⟨g,cap,rfl,F,⟨h.1,fun i hi=>kv h i hi⟩,E⟩
theorem wj (c:ar) (lv:Int) (s:Sp) (w:World) (f:c.name.size≤1000) (h:bg c lv s=0) (E:(be c lv s).length≤100000) :
  Calls Tryz.prog 24 #[av c,lv,bI s] w fun e o=>(∃ x,e=.returned (.tuple #[x,.int .i64 0])∧cw o w x (ez c lv s))∧Below w w o:=
 vY c lv s w f h E (hide fun W=>mJ c lv s W f h) (hide fun y F W=>zS c lv y W f F)
theorem xP (c:ar) (lv:Int) (s:Sp) (w:World) (H:c.name.size≤1000) (h:¬ bg c lv s=0) :
  Calls Tryz.prog 24 #[av c,lv,bI s] w fun e I=>e=.returned (.tuple #[.slice none 0 0,bg c lv s])∧Below w w I:=by
 have F:=hide (fun W=>wa c lv s W H h);generalize bg c lv s=E at *;have G:(E != 0)=true:=by simpa using h
 clear h;simp only [av,bI] at F;simp only [av];go_enter Tryz.func24,Tryz.ntmps24;go_wp2_with fail;refine (F.out _).mono ?_;rintro e J ⟨rfl,f⟩;have o:Hid (Below w w J):=ww f;clear f;go_wp2;go_ret2;exact ⟨rfl,o.out⟩
theorem vz (c:ar) (lv a:Int) (s:Sp) (w:World) (H:c.name.size≤1000) (h:¬ bg c lv s=0) :
  Calls Tryz.prog 26 #[av c,lv,a,bI s] w fun e I=>e=.returned (.tuple #[.slice none 0 0,bg c lv s])∧Below w w I:=by
 have F:=hide (fun W=>xP c lv s W H h);generalize bg c lv s=E at *;have G:(E != 0)=true:=by simpa using h
 clear h;simp only [av,bI] at F;simp only [av];go_enter Tryz.func26,Tryz.ntmps26;go_wp2_with fail;refine (F.out _).mono ?_;rintro e J ⟨rfl,f⟩;have o:Hid (Below w w J):=ww f;clear f;go_wp2;go_ret2;exact ⟨rfl,o.out⟩
theorem sN (c:ar) (lv a:Int) (s:Sp) (w:World) (G:c.name.size≤1000) (h:bg c lv s=0) (S:(be c lv s).length≤4096) (J:aX a) :
  Calls Tryz.prog 26 #[av c,lv,a,bI s] w fun e I=>(∃ x,e=.returned (.tuple #[x,.int .i64 0])∧lM I w.heap.size x (qZ c lv a s))∧Below w w I:=by
 obtain ⟨H,R⟩:=lj h;have f:=eq h;have E:=(fh f.2.2.2.2.1).2.2.2.2.1;have F:=(fh f.2.2.2.2.2).2.2.2.2.1;have O:=f.2.2.2.1;simp [cH] at E F;unfold qZ
 refine uf c lv a s (be c lv s) (ez c lv s) (lO a (ez c lv s)) w om (by rw [mq,eh]) (hide fun W=>mJ c lv s W G h) (hide fun W=>wj c lv s W G h om)
  (hide fun W x T=>sM a (ez c lv s) x W T J (fun d o=>by have:=(R d o).1;omega) (by rw [eh];exact S) (by rw [H];omega) (by rw [H];omega))
end
end Go.Proofs.YtjhhmeoibfdcmaaGreat
