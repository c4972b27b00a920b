/- Lemmas. -/
import Derived.Test.YtjhhmeoibfdcmaaGreatWr03
import Derived.Test.YtjhhmeoibfdcmaaGreatWr10
import Derived.Test.YtjhhmeoibfdcmaaGreatWr14
set_option linter.unusedSimpArgs false
set_option linter.unusedVariables false
set_option maxRecDepth 100000
set_option maxHeartbeats 12800000
namespace Go.Proofs.YtjhhmeoibfdcmaaGreat
section
open Go.RowKit
def qL (a n:Int) (ws:List Int):List Int:=ws.map fun x=>a*x / n
def gz (a n:Int) (ws:List Int):List Pt:=ws.mapIdx fun i x=>⟨(i:Int),a*x % n⟩
theorem jo (a n:Int) (ws:List Int):(qL a n ws).length=ws.length:=by simp [qL]
theorem fq (a n:Int) (ws:List Int):(gz a n ws).length=ws.length:=by simp [gz]
theorem zw {a n:Int} {ws:List Int} {i:Nat} {p:Pt} (h:(gz a n ws)[i]?=some p):∃ x,ws[i]?=some x∧p=⟨(i:Int),a*x % n⟩:=by
 simp only [gz,List.getElem?_mapIdx,Option.map_eq_some_iff] at h;obtain ⟨x,f,o⟩:=h;exact ⟨x,f,o.symm⟩
theorem yz {a n:Int} {ws:List Int} {i:Nat} {x:Int} (h:ws[i]?=some x):(gz a n ws)[i]?=some ⟨(i:Int),a*x % n⟩:=by simp [gz,h]
theorem z6 {a n:Int} {ws:List Int} {i:Nat} {x:Int} (h:ws[i]?=some x):(qL a n ws)[i]?=some (a*x / n):=by simp [qL,h]
theorem qa (a n:Int) (ws:List Int):l7 (gz a n ws):=by
 refine List.pairwise_iff_getElem.2 fun i j hi h f=>?_
 simp only [gz,List.getElem_mapIdx];omega
theorem DJ (a n:Int) (ws:List Int):(gz a n ws).map Pt.ab=ws.map fun x=>a*x % n:=by
 refine List.ext_getElem? fun i=>?_
 simp [gz,List.getElem?_mapIdx,Function.comp_def]
theorem IZ (a n:Int) (ws:List Int):(qL a n ws).sum*n+((gz a n ws).map Pt.ab).sum=a*ws.sum:=by
 rw [DJ,qL]
 induction ws with
 | nil=>simp
 | cons x l f =>
  have h:=Int.ediv_mul_add_emod (a*x) n;simp only [List.map_cons,List.sum_cons,Int.mul_add,Int.add_mul] at f ⊢;omega
theorem kR {a n:Int} (f:0<n) {ws:List Int} {p:Pt} (h:p∈gz a n ws):0≤p.ab∧p.ab<n∧0≤p.pos∧p.pos<ws.length:=by
 obtain ⟨i,hi,rfl⟩:=List.getElem_of_mem h;have o:i<ws.length:=by simpa [fq] using hi
 simp only [gz,List.getElem_mapIdx];exact ⟨Int.emod_nonneg _ om,Int.emod_lt_of_pos _ f,by omega,by omega⟩
theorem Ed {l m:List Int} (h:l.Perm m):l.sum=m.sum:=by
 induction h with
 | nil=>rfl
 | cons x _ f=>simp [f]
 | swap x y l=>simp only [List.sum_cons];omega
 | trans _ _ h1 h2=>exact h1.trans h2
theorem Dc {n:Int} {l:List Int} (h:∀ x∈l,0≤x∧x<n):0≤l.sum∧l.sum≤n*l.length∧(0<l.length→l.sum<n*l.length):=by
 induction l with
 | nil=>simp
 | cons x l o =>
  have E:=o fun y f=>h y (List.mem_cons_of_mem _ f)
  have F:=h x ac;simp only [List.sum_cons,List.length_cons,Int.natCast_add,Int.mul_add];omega
def dk (a n:Int) (ws:List Int):Int:=a-(qL a n ws).sum
theorem py {a n:Int} {ws:List Int} (f:ws.sum=n):((gz a n ws).map Pt.ab).sum=n*dk a n ws:=by
 have h:=IZ a n ws;rw [f] at h;have e:n*dk a n ws=a*n-(qL a n ws).sum*n:=by
  unfold dk;rw [Int.mul_comm,Int.sub_mul]
 omega
theorem zI {a n:Int} {ws:List Int} (E:0<n) (I:ws.sum=n):0≤dk a n ws∧dk a n ws<ws.length:=by
  have h:=py (a:=a) I;obtain ⟨O,R,F⟩:=Dc (n:=n) (l:=(gz a n ws).map Pt.ab) (by
    intro x T;obtain ⟨p,H,rfl⟩:=List.mem_map.1 T;exact ⟨(kR E H).1,(kR E H).2.1⟩)
  have S:((gz a n ws).map Pt.ab).length=ws.length:=by simp [fq]
  have J:0<ws.length:=by
    cases ws with
    | nil=>simp at I;omega
    | cons=>simp
  rw [S] at R F;have G:=F J;rw [h] at O G
  exact ⟨by rcases Int.lt_or_le (dk a n ws) 0 with o | f
            · have:=Int.mul_neg_of_pos_of_neg E o;omega
            · exact f,Int.lt_of_mul_lt_mul_left G om⟩
def dG (l:List Int) (T:List Pt):List Int:=T.foldl (fun l p=>l.modify p.pos.toNat (· + 1)) l
theorem BV (l:List Int):dG l []=l:=rfl
theorem qg (l:List Int) (T:List Pt) (p:Pt):dG l (T++[p])=(dG l T).modify p.pos.toNat (· + 1):=by simp [dG]
theorem lA (l:List Int) (T:List Pt):(dG l T).length=l.length:=by
 induction T generalizing l with
 | nil=>rfl
 | cons p T f=>simp only [dG,List.foldl_cons] at f ⊢;rw [f];simp
theorem jG (l:List Int) (T:List Pt) (i:Nat) (x:Int) (h:l[i]?=some x):(dG l T)[i]?=some (x+(T.countP fun p=>p.pos.toNat==i)):=by
 induction T generalizing l x with
 | nil=>simp [dG,h]
 | cons p T F =>
  have o:(l.modify p.pos.toNat (· + 1))[i]?=some (if p.pos.toNat=i then x+1 else x):=by
   rw [List.getElem?_modify,h]
   split <;> simp
  have f:=F _ _ o;simp only [dG,List.foldl_cons] at f ⊢;rw [f,List.countP_cons];by_cases E:p.pos.toNat=i <;> simp [E];omega
def AY (a n:Int) (ws:List Int) (S:List Pt):List Int:=dG (qL a n ws) (S.take (dk a n ws).toNat)
theorem DC (a n:Int) (ws:List Int) (S:List Pt):(AY a n ws S).length=ws.length:=by rw [AY,lA,jo]
theorem fO {a n:Int} {ws:List Int} {S:List Pt} (h:iX (gz a n ws) S) {p:Pt}:p∈S↔p∈gz a n ws:=h.1.mem_iff
theorem tx {a n:Int} {ws:List Int} {p q:Pt} (f:p∈gz a n ws) (o:q∈gz a n ws) (h:p.pos=q.pos):p=q:=by
 obtain ⟨i,hi,rfl⟩:=List.getElem_of_mem f;obtain ⟨j,E,rfl⟩:=List.getElem_of_mem o;simp only [gz,List.getElem_mapIdx] at h ⊢;have:i=j:=om;subst this;rfl
theorem FT {a n:Int} {ws:List Int} {S:List Pt} (J:0<n) (h:iX (gz a n ws) S) {i:Nat} {x:Int} (H:ws[i]?=some x) :
  ∃ e:Int,(AY a n ws S)[i]?=some (a*x / n+e)∧((e=1∧(⟨(i:Int),a*x % n⟩:Pt)∈S.take (dk a n ws).toNat)∨(e=0∧(⟨(i:Int),a*x % n⟩:Pt) ∉ S.take (dk a n ws).toNat)):=by
 refine ⟨_,jG _ _ i _ (z6 H),?_⟩;have o:(S.take (dk a n ws).toNat).Nodup:=by
  refine List.Nodup.sublist (List.take_sublist _ _) ?_;refine h.2.imp fun {x y} hxy=>?_
  rintro rfl;unfold Pt.lt at hxy;omega
 have F:∀ p∈S.take (dk a n ws).toNat,(p.pos.toNat==i)=true↔p=⟨(i:Int),a*x % n⟩:=by
  intro p E;have G:=(fO h).1 (List.mem_of_mem_take E);have O:=kR J G;constructor
  ·intro I
   refine tx G (List.mem_of_getElem? (yz H)) ?_;have:p.pos.toNat=i:=by simpa using I
   simp only;omega
  ·rintro rfl;simp
 rw [List.countP_congr (q:=fun p=>p==(⟨(i:Int),a*x % n⟩:Pt)) (fun p E=>by rw [F p E];simp)];rw [show (List.countP (fun p=>p==(⟨(i:Int),a*x % n⟩:Pt)) (S.take (dk a n ws).toNat))=List.count ⟨(i:Int),a*x % n⟩ (S.take (dk a n ws).toNat) from rfl];by_cases f:(⟨(i:Int),a*x % n⟩:Pt)∈S.take (dk a n ws).toNat
 ·left
  rw [List.Nodup.count o];simp [f]
 ·right
  rw [List.count_eq_zero.2 f];exact ⟨rfl,f⟩
theorem wn {a n:Int} {ws:List Int} {S:List Pt} (O:0<n) (W:ws.sum=n) (h:iX (gz a n ws) S) {p:Pt} (V:p∈S.take (dk a n ws).toNat):0<p.ab:=by
 rcases Int.lt_or_le 0 p.ab with F | F
 ·exact F
 exfalso;obtain ⟨k,T,rfl⟩:=List.getElem_of_mem V;rw [List.length_take] at T;simp only [List.getElem_take] at F;have R:(S.map Pt.ab).sum=n*dk a n ws:=by rw [← py W];exact Ed (h.1.map Pt.ab)
 have o:∀ q∈S,0≤q.ab∧q.ab<n:=fun q f=>by have:=kR O ((fO h).1 f);omega
 have G:(S.map Pt.ab).sum=((S.take k).map Pt.ab).sum+((S.drop k).map Pt.ab).sum:=by rw [← List.sum_append,← List.map_append,List.take_append_drop]
 have hz:((S.drop k).map Pt.ab).sum≤0:=by
  have H:∀ q∈S.drop k,q.ab≤0:=by
   intro q f;rw [List.drop_eq_getElem_cons om] at f;rcases List.mem_cons.1 f with rfl | f
   ·exact F
   ·have E:iW (S.drop k):=h.2.sublist (List.drop_sublist _ _)
    rw [List.drop_eq_getElem_cons om] at E;have:=List.rel_of_pairwise_cons E f;unfold Pt.lt at this;omega
  generalize S.drop k=l at H ⊢
  induction l with
  | nil=>simp
  | cons y l ih =>
   have h1:=ih fun q f=>H q (List.mem_cons_of_mem _ f)
   have J:=H y ac;simp only [List.map_cons,List.sum_cons];omega
 obtain ⟨_,J,_⟩:=Dc (n:=n) (l:=(S.take k).map Pt.ab) (by
  intro x hx;obtain ⟨q,f,rfl⟩:=List.mem_map.1 hx;exact o q (List.mem_of_mem_take f))
 have I:((S.take k).map Pt.ab).length=k:=by rw [List.length_map,List.length_take];omega
 rw [I] at J;have U:n*(dk a n ws)≤n*(k:Int):=om;have:=Int.le_of_mul_le_mul_left U O;omega
end
section
open Go.RowKit Go.Sort
def lO (a:Int) (ws:List Int):List Int:=AY a ws.sum ws (jv (gz a ws.sum ws))
theorem tq (a:Int) (ws:List Int):iX (gz a ws.sum ws) (jv (gz a ws.sum ws)):=pd (qa a ws.sum ws)
theorem mq (a:Int) (ws:List Int):(lO a ws).length=ws.length:=DC _ _ _ _
def bV {α:Type} (z:α) (l:List α) (j:Nat):List α:=l.take j++List.replicate (l.length-j) z
theorem mO {α:Type} (z:α) (l:List α) (j:Nat) (h:j≤l.length):(bV z l j).length=l.length:=by simp [bV];omega
theorem iw {α:Type} (z:α) (l:List α):bV z l 0=List.replicate l.length z:=by simp [bV]
theorem iq {α:Type} (z:α) (l:List α):bV z l l.length=l:=by simp [bV]
theorem jw {α:Type} (z:α) (l:List α) (j:Nat) (x:α) (h:l[j]?=some x):(bV z l j).set j x=bV z l (j+1):=by
 have o:=(List.getElem?_eq_some_iff.1 h).1;have f:(l.take j).length=j:=by rw [List.length_take];omega
 have e:List.replicate (l.length-j) z=z::List.replicate (l.length-(j+1)) z:=by rw [show l.length-j=(l.length-(j+1))+1 by omega];rfl
 unfold bV;rw [List.set_append_right _ _ om,f,Nat.sub_self,e,List.set_cons_zero,List.take_add_one,h];simp
theorem FQ (l:List Int) (j:Nat) (x:Int) (h:l[j]?=some x):(l.take (j+1)).sum=(l.take j).sum+x:=by rw [List.take_add_one,h];simp
theorem oK {ws:List Int} (h:∀ x∈ws,0≤x):∀ x∈ws,x≤ws.sum:=by
 induction ws with
 | nil=>simp
 | cons y l o =>
  have E:=o fun x f=>h x (List.mem_cons_of_mem _ f)
  have F:0≤l.sum:=by
   clear E o
   induction l with
   | nil=>simp
   | cons z l o =>
    have:=o fun x f=>h x (by rcases List.mem_cons.1 f with rfl | f <;> simp [*])
    have:=h z ac;simp only [List.sum_cons];omega
  intro x f;rcases List.mem_cons.1 f with rfl | f
  ·simp only [List.sum_cons];omega
  ·have:=E x f;have:=h y ac;simp only [List.sum_cons];omega
theorem DV {a n:Int} {ws:List Int} (E:aX a) (F:0<n) (h:∀ x∈ws,0≤x∧x≤n):∀ q∈qL a n ws,aX q:=by
 intro q f;simp only [qL,List.mem_map] at f;obtain ⟨x,o,rfl⟩:=f;exact jE E (h x o).1 (h x o).2 F
theorem zl {a n:Int} {ws:List Int} (f:aX a) (o:∀ q∈qL a n ws,aX q) (G:ws.length≤1000000) (j:Nat):bL (a-((qL a n ws).take j).sum):=by
 have h:=FR (l:=(qL a n ws).take j) (fun x E=>o x (List.mem_of_mem_take E));have F:((qL a n ws).take j).length≤ws.length:=by rw [List.length_take,jo];omega
 unfold bL;unfold aX at f;omega
theorem zb (l:List Int) (i:Nat) (x:Int) (h:l[i]?=some x):l.set i (x+1)=l.modify i (· + 1):=by
 refine List.ext_getElem? fun k=>?_
 rw [List.getElem?_set,List.getElem?_modify];have hi:=(List.getElem?_eq_some_iff.1 h).1;by_cases f:i=k
 ·subst f
  rw [if_pos rfl,if_pos hi,h];simp
 ·rw [if_neg f]
  cases l[k]? <;> simp [f]
theorem Gk {a n:Int} {ws:List Int} {S:List Pt} (U:0<n) (hs:ws.sum=n) (h:iX (gz a n ws) S) {j:Nat} {p:Pt} (J:(S.take (dk a n ws).toNat)[j]?=some p) :
  ∃ x,ws[p.pos.toNat]?=some x∧0≤p.pos∧p.pos<ws.length∧(dG (qL a n ws) ((S.take (dk a n ws).toNat).take j))[p.pos.toNat]?=some (a*x / n)∧0<a*x % n:=by
 obtain ⟨T,R⟩:∃ T,S.take (dk a n ws).toNat=T:=⟨_,rfl⟩;have f:0<p.ab:=wn U hs h (List.mem_of_getElem? J);have o:∀ q∈T,q∈gz a n ws:=fun q O=>(fO h).1 (List.mem_of_mem_take (by rw [R];exact O))
 have I:T.Pairwise Pt.lt:=by rw [← R];exact h.2.sublist (List.take_sublist _ _)
 rw [R] at J ⊢;have E:=o p (List.mem_of_getElem? J);obtain ⟨i,hi,e⟩:=List.getElem_of_mem E;obtain ⟨x,hx,e2⟩:=zw (a:=a) (n:=n) (ws:=ws) (i:=i) (p:=p) (by rw [List.getElem?_eq_getElem hi,e]);have hb:=kR U E;have G:p.pos.toNat=i:=by rw [e2];simp
 refine ⟨x,by rw [G];exact hx,hb.2.2.1,hb.2.2.2,?_,by rw [e2] at f;exact f⟩;have hg:=jG (qL a n ws) (T.take j) i _ (z6 hx);rw [G,hg];have hc:(T.take j).countP (fun q=>q.pos.toNat==i)=0:=by
  rw [List.countP_eq_zero];intro q O V;have H:=o q (List.mem_of_mem_take O);have ad:=kR U H;have W:q=p:=tx H E (by have:q.pos.toNat=i:=(by simpa using V);omega);subst W;obtain ⟨k,hk,ek⟩:=List.getElem_of_mem O;rw [List.length_take] at hk;rw [List.getElem_take] at ek;have F:=(List.getElem?_eq_some_iff.1 J);have:=List.pairwise_iff_getElem.1 I k j om F.1 om;rw [ek,F.2] at this;unfold Pt.lt at this;omega
 rw [hc];simp
theorem zW {a n x:Int} (o:aX a) (E:0≤x) (f:x≤n) (H:0<n) (O:0<a*x % n):aX (a*x / n+1):=by
 have J:=jE o E f H;unfold aX at *;refine ⟨by omega,?_⟩;have I:a*x≤9223372036854775807*n:=by
  rcases Int.lt_or_le a 0 with h | h
  ·have:=Int.mul_le_mul_of_nonneg_right (show a≤0 by omega) E;omega
  ·have F:a*x≤a*n:=Int.mul_le_mul_of_nonneg_left f h
   have G:a*n≤9223372036854775807*n:=Int.mul_le_mul_of_nonneg_right o.2 om;omega
 have F:=Int.ediv_mul_add_emod (a*x) n;rcases Int.lt_or_le (a*x / n) 9223372036854775807 with h | h
 ·omega
 ·have G:9223372036854775807*n≤a*x / n*n:=Int.mul_le_mul_of_nonneg_right h om
  omega
theorem Gf (a:Int) (w:World):Calls Tryz.prog 167 #[a] w fun e f=>e=.returned (.bool (decide (a<0)))∧w=f:=by
 go_enter Tryz.func167,Tryz.ntmps167;go_wp2;go_ret;exact ⟨rfl,rfl⟩
abbrev Kq:Value:=.func (.func 167) #[] #[]
theorem Fl (v:Value) (l:List Int) (w:World) (U:iJ w v l) (H:∀ x∈l,0≤x) (hn:l.length≤1000000) :
  Calls Tryz.prog 214 #[v,Kq] w fun e W=>e=.returned (.int .i64 (-1))∧Below w w W:=by
 obtain ⟨ad,cap,rfl,G⟩:=U;have I:=hide G;have J:=hide H;clear G H;go_enter Tryz.func214,Tryz.ntmps214;go_wp2_with fail;go_loopw [8] (fun s wr=>∃ j:Nat,s=.int .i64 j∧j≤l.length∧Below w w wr) (fun s _=>(l.length+5-intOf s).toNat)
 case atStart=>exact ⟨0,rfl,Nat.zero_le _,by (repeat' exact bel)⟩
 case round =>
  obtain ⟨j,rfl,hj,f⟩:=hrel;by_cases h:j<l.length
  ·obtain ⟨x,E⟩:∃ x,l[j]?=some x:=⟨_,List.getElem?_eq_getElem h⟩
   obtain ⟨g,o,rfl,R,F⟩:=I.out j x E;have V:=J.out x (List.mem_of_getElem? E);have ha:wr.cell? ⟨g,o+j,none⟩=some (.int .i64 x):=by
    rw [f.cell (p:=⟨g,o+j,none⟩) R];exact F
   have S:(0:Int)≤(j:Int):=om;have T:(j:Int)<(l.length:Int):=om;have O:decide (x<0)=false:=ae;clear E F;go_wp2_with fail;refine (Gf x _).mono ?_;rintro e w2 ⟨rfl,rfl⟩;rw [O];go_wp2;go_roundw
   case rel=>exact ⟨j+1,by go_num,by omega,by (repeat' exact bel)⟩
   case measure=>simp [intOf];omega
  ·go_wp2
   all_goals first
    | (exfalso;omega)
    | (go_ret;exact ⟨rfl,by (repeat' exact bel)⟩)
theorem uP (v:Value) (l:List Int) (w:World) (o:iJ w v l) (h:∀ x∈l,0≤x) (H:l.length≤1000000) :
  Calls Tryz.prog 166 #[v,Kq] w fun e I=>e=.returned (.bool false)∧Below w w I:=by
 have F:=hide (Fl v l w o h H);obtain ⟨J,cap,rfl,G⟩:=o;clear G h;go_enter Tryz.func166,Tryz.ntmps166;go_wp2_with fail;refine F.out.mono ?_;rintro e O ⟨rfl,f⟩;have E:=hide f;clear f;go_wp2;go_ret;exact ⟨rfl,E.out⟩
theorem Cp (v:Value) (l:List Int) (w:World) (E:iJ w v l) (R:∀ x∈l,0≤x) (hn:l.length≤4096) (h:∀ x∈l,aX x) (J:aX l.sum) (W:0<l.sum) :
  Calls Tryz.prog 103 #[v] w fun e w'=>e=.returned (.tuple #[l.sum,.int .i64 0])∧Below w w w':=by
 have T:=hide (uP v l w E R om);have H:=hide (fun w E=>pN v l w E h om);rw [(cB J).1,(cB J).2] at H;have U:=hide E;obtain ⟨ad,cap,rfl,V⟩:=E;obtain ⟨S,O⟩:∃ S,l.sum=S:=⟨_,rfl⟩;rw [O] at W H ⊢;have hz:(S==0)=false:=ae;clear V R h J O;go_enter Tryz.func103,Tryz.ntmps103;go_wp2_with fail
 all_goals first
  | (exfalso;omega)
  | skip
 refine T.out.mono ?_;rintro e w1 ⟨rfl,f⟩;have F:Hid (Below w w w1):=ww f;have I:=hide (U.out.call f);have ab:=f.size;clear f;go_wp2_with fail;refine (H.out _ I.out).mono ?_;rintro e w2 ⟨rfl,o⟩;have G:Hid (Below w w w2):=ao F.out o;clear o;go_wp2;go_ret2;exact ⟨rfl,G.out⟩
theorem BU:(Tryz.prog.info? 163).map (fun i=>(i.zero,i.size,i.bytes))=some (some (.agg #[.int .i64 0,.int .i64 0]),2,16):=by kernel_rfl
def nX (n:Nat):Obj:=.cells ((List.replicate n (⟨0,0⟩:Pt)).flatMap CU).toArray 163
theorem Bj (n:Nat):(List.replicate n (⟨0,0⟩:Pt)).flatMap CU=List.replicate (n*2) (Value.int .i64 0):=by
 induction n with
 | zero=>rfl
 | succ n f =>
  rw [List.replicate_succ,List.flatMap_cons,f,show (n+1)*2=n*2+1+1 by omega,List.replicate_succ,List.replicate_succ];rfl
theorem aJ.new (w:World) (n:Nat):aJ (w.alloc (nX n)) w.heap.size (List.replicate n ⟨0,0⟩):=by
 unfold aJ nX;rw [heap_alloc_new]
theorem xp (n:Nat) (J:n≤100000) (w:World):(Instr.makeSlice 159 (.int .i64 (n:Int)) (.int .i64 (n:Int))).run Tryz.prog w=.ok (.slice (some ⟨w,0,none⟩) n n) (w.alloc (nX n)):=by
 obtain ⟨G,hi,f,o,E⟩:=info_parts BU;have F:=run_make (P:=Tryz.prog) w 159 163 G (.agg #[.int .i64 0,.int .i64 0]) Tryz.underlying159 hi f .i64 .i64 n n om om (by rw [E];omega) om;rw [F,o];have e:madeCells (Value.agg #[.int .i64 0,.int .i64 0]).cells (((n:Int)).toNat*2)=((List.replicate n (⟨0,0⟩:Pt)).flatMap CU).toArray:=by
  rw [Bj];apply Array.ext
  ·simp [madeCells]
  ·intro i H I
   rcases Nat.mod_two_eq_zero_or_one i with h | h <;> simp [madeCells,Value.cells,h]
 rw [e];simp [nX]
def nE (O:List Int) (D:List Pt) (left:Int) (h o B:Nat) (f w:World):Prop:=
 bA w h O∧aJ w o D∧ap w B (qO left) 103∧(h≠o∧h≠B∧o≠B)∧(f.heap.size≤h∧f.heap.size≤o∧f.heap.size≤B)∧Below f f w
theorem nE.call {O:List Int} {D:List Pt} {left:Int} {o E B:Nat} {H w G:World} (h:nE O D left o E B H w) (f:Below w w G):nE O D left o E B H G:=by
 obtain ⟨I,J,R,S,T,F⟩:=h;exact ⟨I.call f,J.call f,R.call f,S,T,F.trans (f.mono F.size)⟩
theorem ue {f:Array Value} {t:TypeId} {B:Nat} {w:World} (h:ap w B f t) {p:Addr} (o:B≠p.block) (u:Value):ap (w.setCell p u) B f t:=(Below.heap_setCell w p u B o).trans h
theorem lk {D:List Pt} {g:Nat} {w:World} (h:aJ w g D) {p:Addr} (f:g≠p.block) (u:Value):aJ (w.setCell p u) g D:=(Below.heap_setCell w p u g f).trans h
theorem nE.put {O:List Int} {D:List Pt} {left:Int} {F f B:Nat} {I w:World} (h:nE O D left F f B I w) (j:Nat) (q:Int) (p:Pt) (U:j<D.length) :
  nE (O.set j q) (D.set j p) left F f B I (((w.setCell ⟨F,j,none⟩ (.int .i64 q)).setCell ⟨f,j*2,none⟩ (.int .i64 p.pos)).setCell ⟨f,j*2+1,none⟩ (.int .i64 p.ab)):=by
 obtain ⟨J,R,S,⟨E,H,G⟩,o,T⟩:=h;refine ⟨((J.set j q).far E _).far E _,(lk R (Ne.symm E) _).put j p U,ue (ue (ue S (Ne.symm H) _) (Ne.symm G) _) (Ne.symm G) _,⟨E,H,G⟩,o,((T.setCell o.1 _).setCell o.2.1 _).setCell o.2.1 _⟩
theorem nE.left {O:List Int} {D:List Pt} {left:Int} {F G B:Nat} {I w:World} (h:nE O D left F G B I w) (m:Int) :
  nE O D m F G B I ((w.setCell ⟨B,0,none⟩ (.int .i64 (m / 18446744073709551616))).setCell ⟨B,1,none⟩ (.int .u64 (m % 18446744073709551616))):=by
 obtain ⟨J,R,H,⟨T,o,E⟩,f,S⟩:=h;refine ⟨(J.far o _).far o _,lk (lk R E _) E _,?_,⟨T,o,E⟩,f,(S.setCell f.2.2 _).setCell f.2.2 _⟩;unfold ap at H ⊢;simp [World.setCell,Array.getElem?_modify,H]
def LS (L:Nat) (o:World) (F G:Value) (E:World):Prop:=∃ f h,F=.slice (some ⟨f,0,none⟩) L L∧G=.slice (some ⟨h,0,none⟩) L L∧f≠h∧o.heap.size≤f∧o.heap.size≤h∧bA E f (List.replicate L 0)∧aJ E h (List.replicate L ⟨0,0⟩)∧Below o o E
theorem yV (a:Int) (v:Value) (ws:List Int) (w:World) (ha:aX a) (hv:iJ w v ws) (hl:∀ x∈ws,0≤x) (hn:ws.length≤4096) (h0:0<ws.sum) (hs:ws.sum<4294967296) :
  Calls Tryz.prog 65 #[a,v] w fun e w'=>(∃ g,e=.returned (.tuple #[.slice (some ⟨g,0,none⟩) ws.length ws.length,.int .i64 0])∧bA w' g (lO a ws)∧w.heap.size≤g)∧Below w w w':=by
 have a7:=oK hl;have ca:∀ x∈ws,aX x:=fun x I=>by have:=hl x I;have:=a7 x I;unfold aX;omega
 have a3:aX ws.sum:=by unfold aX;omega
 have S:=hide (Cp v ws w hv hl hn ca a3 h0);obtain ⟨n,aF⟩:∃ n,ws.sum=n:=⟨_,rfl⟩;obtain ⟨L,hL⟩:∃ n,ws.length=n:=⟨_,rfl⟩;have a4:=hide (fun x (I:x∈ws)=>And.intro (hl x I) (show x≤n by rw [← aF];exact a7 x I));have HV:=hide hv;have HA:=hide ha;have f:=hide (And.intro aF hL);rw [aF] at h0 hs S;rw [hL] at hn ⊢;have d9:=fun w=>l9 L om w
 have ea:=fun w=>xp L om w
 obtain ⟨ad,cap,rfl,hc⟩:=hv;rw [hL] at S HV ⊢;clear hl a7 ca a3 ha aF hL hc;go_enter Tryz.func65,Tryz.ntmps65;go_wp2_with fail;refine S.out.mono ?_;rintro e O ⟨rfl,aq⟩;have c9:=hide aq;have b9:=hide (HV.out.call aq);have d6:=aq.size;clear aq;go_upto_region 4 with (fail);go_cut [8,9] (fun s8 s9 wx=>LS L O s8 s9 wx)
 case first =>
  go_region
  all_goals
   go_wp2_with fail;go_meet
  case rel =>
   refine ⟨O,O.heap.size+1,rfl,rfl,by omega,Nat.le_refl _,by omega,?_,?_,by (repeat' exact bel)⟩
   ·exact (bA.new O L).call an
   ·have h:=aJ.new (O.alloc (eZ L)) L
    rw [show (O.alloc (eZ L)).heap.size=O.heap.size+1 by simp] at h;exact h.drew
  case rel =>
   refine ⟨O+1,O.heap.size,rfl,rfl,by omega,by omega,Nat.le_refl _,?_,?_,by (repeat' exact bel)⟩
   ·have h:=bA.new (O.alloc (nX L)) L
    rw [show (O.alloc (nX L)).heap.size=O.heap.size+1 by simp] at h;exact h.call an
   ·exact ((aJ.new O L).call an).drew
 case rest =>
  obtain ⟨F,R,rfl,rfl,aB,ex,ey,a5,a6,ay⟩:=hcut;have H:=DV HA.out h0 a4.out;have b3:=hide (fun w=>oN a w HA.out);simp only [cv] at b3;have bt:=hide (c9.out.trans (ay.mono d6));have d2:=hide (b9.out.call ay);have e0:=ay.size;have HR:=hide (And.intro a5 a6);have eB:F<wc.heap.size∧R<wc.heap.size:=⟨a5.lt,a6.lt⟩;clear a5 a6 ay;go_wp2_with fail;refine (b3.out _).mono ?_;rintro e w3 ⟨rfl,T⟩;have bw:=hide (bt.out.trans (T.mono (by have:=bt.out.size;omega)));have e6:=T.size;have H0:=hide (show nE (bV 0 (qL a n ws) 0) (bV ⟨0,0⟩ (gz a n ws) 0) (a-((qL a n ws).take 0).sum) F R w3.heap.size w (w3.alloc (.cells #[.int .i64 (a / 18446744073709551616),.int .u64 (a % 18446744073709551616)] 103)) from by
   have cM:Below wc wc (w3.alloc (.cells #[.int .i64 (a / 18446744073709551616),.int .u64 (a % 18446744073709551616)] 103)):=T.alloc T.size _;have et:=bw.out;refine ⟨?_,?_,?_,⟨aB,by omega,by omega⟩,⟨by omega,by omega,by omega⟩,by (repeat' exact bel)⟩
   ·rw [iw,jo,f.out.2];exact HR.out.1.call cM
   ·rw [iw,fq,f.out.2];exact HR.out.2.call cM
   ·rw [List.take_zero,List.sum_nil,Int.sub_zero];exact ap.new _ _ _)
  clear T HR d2 b9;have es:w.heap.size≤w3.heap.size:=by have:=bw.out.size;omega
  go_wp2_with fail;go_loopw [38] (fun s wr=>∃ j:Nat,s=.int .i64 j∧j≤L∧nE (bV 0 (qL a n ws) j) (bV ⟨0,0⟩ (gz a n ws) j) (a-((qL a n ws).take j).sum) F R w3.heap.size w wr) (fun s _=>(L+5-intOf s).toNat)
  case atStart=>exact ⟨0,rfl,Nat.zero_le _,H0.out⟩
  case round =>
   obtain ⟨j,rfl,hj,hS⟩:=hrel;have HS:=hide hS;clear hS;by_cases aA:j<L
   ·obtain ⟨x,I⟩:∃ x,ws[j]?=some x:=⟨_,List.getElem?_eq_getElem (by rw [f.out.2];exact aA)⟩
    obtain ⟨a1,a2⟩:=a4.out x (List.mem_of_getElem? I);have ah:=z6 (a:=a) (n:=n) I;have bd:=yz (a:=a) (n:=n) I;obtain ⟨q,hq⟩:∃ q,a*x / n=q:=⟨_,rfl⟩;obtain ⟨r,hr⟩:∃ q,a*x % n=q:=⟨_,rfl⟩;have b0:=hide (fun w=>G5 a x n w HA.out a1 a2 h0 hs);rw [hq,hr] at b0;rw [hq] at ah;rw [hr] at bd;have W:aX q:=H q (List.mem_of_getElem? ah);have bh:=zl HA.out H (by rw [f.out.2];omega) j;have bl:=zl HA.out H (by rw [f.out.2];omega) (j+1);have d4:=FQ _ j q ah;obtain ⟨lf,c4⟩:∃ y,a-((qL a n ws).take j).sum=y:=⟨_,rfl⟩;have V:a-((qL a n ws).take (j+1)).sum=lf + -q:=om;rw [c4] at bh HS;rw [V] at bl;have ba:bL (-q):=by unfold aX at W;unfold bL;omega
    have b4:=hide (fun w=>oN q w W);have b2:=hide (fun w=>GZ q w (mP W) ba);have bp:=hide (fun w=>sX lf (-q) w bh ba bl);simp only [cv] at b4 b2 bp;have dq:=hide V;have b5:=hide (And.intro ah bd);obtain ⟨gv,ov,rfl,eD,a0⟩:∃ gv ov,ad=some ⟨gv,ov,none⟩∧gv<wr.heap.size∧wr.cell? ⟨gv,ov+j,none⟩=some (.int .i64 x):=by
     obtain ⟨em,d7,e1,e2⟩:=HV.out;cases e1;obtain ⟨gv,ov,e3,e4,e5⟩:=e2 j x I;have cI:=HS.out.2.2.2.2.2;exact ⟨gv,ov,e3,Nat.lt_of_lt_of_le e4 cI.size,(cI.cell (p:=⟨gv,ov+j,none⟩) e4).trans e5⟩
    have eE:(0:Int)≤(j:Int):=om;have eF:(j:Int)<(L:Int):=om;clear I ah bd hq hr W bh bl d4 c4 V ba;go_wp2_with fail;refine (b0.out _).mono ?_;rintro e w4 ⟨rfl,U⟩;have J:=hide (HS.out.call U);clear U a0;have cS:(bV 0 (qL a n ws) j)[j]?=some 0:=by
     have h1:(List.take j (qL a n ws)).length=j:=by rw [List.length_take,jo,f.out.2];omega
     unfold bV;rw [List.getElem?_append_right om,h1,Nat.sub_self,List.getElem?_replicate,if_pos (by rw [jo,f.out.2];omega)]
    have c3:(bV ⟨0,0⟩ (gz a n ws) j)[j]?=some ⟨0,0⟩:=by
     have h1:(List.take j (gz a n ws)).length=j:=by rw [List.length_take,fq,f.out.2];omega
     unfold bV;rw [List.getElem?_append_right om,h1,Nat.sub_self,List.getElem?_replicate,if_pos (by rw [fq,f.out.2];omega)]
    have c0:=J.out.1.cell cS;have f0:=J.out.1.frozen j;obtain ⟨c1,c2⟩:=J.out.2.1.cell c3;have f1:=J.out.2.1.frozen (j*2);have f2:=J.out.2.1.frozen (j*2+1);have el:=hide aB;clear cS c3;have b6:=hide (show nE (bV 0 (qL a n ws) (j+1)) (bV ⟨0,0⟩ (gz a n ws) (j+1)) lf F R w3.heap.size w (((w4.setCell ⟨F,j,none⟩ (.int .i64 q)).setCell ⟨R,j*2,none⟩ (.int .i64 (j:Int))).setCell ⟨R,j*2+1,none⟩ (.int .i64 r)) from by
     have h:=J.out.put j q ⟨(j:Int),r⟩ (by rw [mO _ _ _ (by rw [fq,f.out.2];omega),fq,f.out.2];exact aA);rw [jw _ _ _ _ b5.out.1,jw _ _ _ _ b5.out.2] at h;exact h)
    go_wp2_with fail;obtain ⟨W5,cr⟩:∃ W5,(((w4.setCell ⟨F,j,none⟩ (.int .i64 q)).setCell ⟨R,j*2,none⟩ (.int .i64 (j:Int))).setCell ⟨R,j*2+1,none⟩ (.int .i64 r))=W5:=⟨_,rfl⟩;rw [cr] at b6 ⊢;clear cr c0 c1 c2 f0 f1 f2;refine (b4.out _).mono ?_;rintro e w6 ⟨rfl,cs⟩;have dY:=hide (b6.out.call cs);clear cs;go_wp2_with fail;refine (b2.out _).mono ?_;rintro e w7 ⟨rfl,cy⟩;have b7:=hide (dY.out.call cy);clear cy;obtain ⟨⟨k0,k1⟩,k2,k3,k4⟩:=cO b7.out.2.2.1;go_wp2_with fail;refine (bp.out _).mono ?_;rintro e w8 ⟨rfl,cE⟩;have b8:=hide (b7.out.call (cE.mono ac |> fun h=>((Below.refl _ _).alloc (Nat.le_refl _) _).trans h));clear cE k0 k1 k2 k3 k4;obtain ⟨⟨k0,k1⟩,k2,k3,k4⟩:=cO b8.out.2.2.1;have d0:=hide (b8.out.left (lf + -q));go_wp2_with fail;go_roundw
    case rel=>exact ⟨j+1,by go_num,by omega,by rw [dq.out];exact d0.out⟩
    case measure=>simp [intOf];omega
   ·obtain rfl:j=L:=om
    obtain ⟨M,hM⟩:∃ M,dk a n ws=M:=⟨_,rfl⟩;have cl:=zI (a:=a) h0 f.out.1;rw [hM,f.out.2] at cl;have HE:=hide (show nE (qL a n ws) (gz a n ws) M F R w3.heap.size w wr from by
     have h:=HS.out;have e1:bV 0 (qL a n ws) j=qL a n ws:=by have:=iq 0 (qL a n ws);rwa [jo,f.out.2] at this
     have e2:bV ⟨0,0⟩ (gz a n ws) j=gz a n ws:=by have:=iq (⟨0,0⟩:Pt) (gz a n ws);rwa [fq,f.out.2] at this
     have e3:(qL a n ws).take j=qL a n ws:=List.take_of_length_le (by rw [jo,f.out.2];omega);rw [e1,e2,e3] at h;unfold dk at hM;rw [hM] at h;exact h)
    obtain ⟨d3,ew⟩:=cl;have G:aX M:=by unfold aX;omega
    have al:=hide (fun w=>qG M w (mP G));rw [(cB G).1,(cB G).2] at al;simp only [cv] at al;have b1:=hide hM;obtain ⟨m,rfl⟩:=Int.eq_ofNat_of_zero_le d3;obtain ⟨⟨k0,k1⟩,k2,k3,k4⟩:=cO HE.out.2.2.1;clear G hM H;go_wp2_with fail;refine (al.out _).mono ?_;rintro e w4 ⟨rfl,U⟩;have E:=hide (HE.out.call U);clear U k0 k1 k2 k3 k4;go_wp2_with fail;refine (EQ R j j (gz a n ws) w4 (qa a n ws) E.out.2.1 (by rw [fq,f.out.2]) om).mono ?_;rintro e w5 ⟨rfl,c6,bb⟩
    have dd:=hide (show bA w5 F (dG (qL a n ws) (((jv (gz a n ws)).take m).take 0))∧aJ w5 R (jv (gz a n ws))∧Below w w w5 from
     ⟨by rw [List.take_zero,BV];exact (bb.block F E.out.1.lt aB).trans E.out.1,c6,E.out.2.2.2.2.2.trans (bb.below E.out.2.2.2.2.1.2.1 E.out.2.2.2.2.2.size)⟩)
    clear c6 bb;have a8:(dk a n ws).toNat=m:=by rw [b1.out];exact Int.toNat_natCast m
    have bx:=hide (fun (k:Nat) (p:Pt) (hk:((jv (gz a n ws)).take (dk a n ws).toNat)[k]?=some p)=>Gk (a:=a) h0 f.out.1 (pd (qa a n ws)) (j:=k) (p:=p) hk);rw [a8] at bx;have d1:=hide (show (jv (gz a n ws)).length=j by rw [(nO _).length_eq,fq,f.out.2]);have ds:=hide (show lO a ws=dG (qL a n ws) ((jv (gz a n ws)).take m) by unfold lO AY;rw [f.out.1,a8]);clear a8;have bX:=hide E.out.2.2.2.2.1;clear HE E HS al b1;go_wp2_with fail;go_loopw [100] (fun s wr=>∃ k:Nat,s=.int .i64 k∧k≤m∧bA wr F (dG (qL a n ws) (((jv (gz a n ws)).take m).take k))∧aJ wr R (jv (gz a n ws))∧Below w w wr) (fun s _=>(m+5-intOf s).toNat)
    case atStart=>exact ⟨0,rfl,Nat.zero_le _,dd.out⟩
    case round =>
     obtain ⟨k,rfl,hk,cc,cp,cb⟩:=hrel;have o:=hide (And.intro cc (And.intro cp cb));clear cc cp cb;by_cases aA:k<m
     ·obtain ⟨p,hp⟩:∃ p,(jv (gz a n ws))[k]?=some p:=⟨_,List.getElem?_eq_getElem (by rw [d1.out];omega)⟩
      have bc:((jv (gz a n ws)).take m)[k]?=some p:=by rw [List.getElem?_take,if_pos aA];exact hp
      obtain ⟨x,I,c5,c7,hg,hr⟩:=bx.out k p bc;rw [f.out.2] at c7;obtain ⟨a1,a2⟩:=a4.out x (List.mem_of_getElem? I);have hy:=zW HA.out a1 a2 h0 hr;obtain ⟨y,c8⟩:∃ y,a*x / n=y:=⟨_,rfl⟩;rw [c8] at hg hy;obtain ⟨c1,c2⟩:=o.out.2.1.cell hp;obtain ⟨e7,ab⟩:=p;simp only at c5 c7 hg c1 c2;obtain ⟨q,rfl⟩:=Int.eq_ofNat_of_zero_le c5;rw [show ((q:Int)).toNat=q from rfl] at hg;have c0:=o.out.1.cell hg;have f0:=o.out.1.frozen q;have HN:=hide (show bA ((wr.setCell ⟨F,q,none⟩ (.int .i64 (y+1))).alloc (.cells #[.int .i64 (q:Int),ab] 163)) F (dG (qL a n ws) (((jv (gz a n ws)).take m).take (k+1))) from by
       have h:=o.out.1.set q (y+1);rw [zb _ _ _ hg] at h;rw [List.take_add_one,bc,Option.toList_some,qg];exact h.call ((Below.refl _ _).alloc (Nat.le_refl _) _))
      have eA:=o.out.1.lt;have d8:=o.out.2.1.lt;unfold aX at hy;obtain ⟨eS,eU⟩:=hy;have W:(0:Int)≤(q:Int):=om;have eL:(0:Int)≤(k:Int):=om;have eN:(k:Int)<(m:Int):=om;have d5:-9223372036854775808≤y∧y≤9223372036854775806:=by
       have:=jE HA.out a1 a2 h0;unfold aX at this;omega
      obtain ⟨eb,ek⟩:=d5;clear hp bc I hg hr c8;go_wp2_with fail;go_roundw
      case rel=>exact ⟨k+1,by go_num,by omega,HN.out,(lk o.out.2.1 (Ne.symm aB) _).call ((Below.refl _ _).alloc (Nat.le_refl _) _),(o.out.2.2.setCell bX.out.1 _).alloc (by simp;exact o.out.2.2.size) _⟩
      case measure=>simp [intOf];omega
     ·obtain rfl:k=m:=om
      have HF:=hide (show bA wr F (lO a ws) by
       have h:=o.out.1;rw [List.take_of_length_le (by rw [List.length_take];omega)] at h;rw [ds.out];exact h)
      go_wp2
      all_goals first
       | (exfalso;omega)
       | (go_ret2;exact ⟨⟨F,rfl,HF.out,bX.out.1⟩,o.out.2.2⟩)
end
end Go.Proofs.YtjhhmeoibfdcmaaGreat
