/- Lemmas. -/
import Derived.Lib.Bytealg
import Derived.Lib.ConvBytes
import Derived.Lib.Slices
import Derived.Lib.Strings
import Derived.Lib.Walk
import Derived.Test.YtpebkobmhhnojaaGreatDoorTp05
set_option linter.unusedSimpArgs false
set_option linter.unusedVariables false
set_option maxRecDepth 100000
set_option maxHeartbeats 12800000
namespace Go.Proofs.YtpebkobmhhnojaaGreatDoor
section
open Go.RowKit Qd
theorem sH (s:ByteArray) (c:Int) (w:World) :
  Calls Tryz.prog 204 #[.string s,.int .u8 c] w fun e w'=>e=.returned (.int .i64 (Lib.indexByte s.data.toList c.toNat.toUInt8))∧w'=w:=by
 go_enter Tryz.func204,Tryz.ntmps204;go_wp2;rw [run_callFunc_extern Tryz.func235 (by kernel_rfl) (by kernel_rfl) (by kernel_rfl) (e:=Extern.BytealgIndexByte.indexByte) (by kernel_rfl),Lib.run_indexByteString];simp only [Result.andThen];rw [Oper.upon_value];go_wp2;go_ret;exact ⟨rfl,rfl⟩
theorem sg (s:ByteArray) (c:Int) (w:World) :
  Calls Tryz.prog 191 #[.string s,.int .u8 c] w fun e w'=>e=.returned (.int .i64 (Lib.indexByte s.data.toList c.toNat.toUInt8))∧w'=w:=by
 go_enter Tryz.func191,Tryz.ntmps191;go_wp2_with (go_at_call 204;refine (sH _ _ _).mono ?_;rintro e w' ⟨rfl,rfl⟩);go_ret;exact ⟨rfl,rfl⟩
def EA (b:Int):Int:=if b=32 then 0 else if b=9 then 1 else if b=10 then 2 else if b=35 then 3 else -1
theorem Ej:∀ n:Nat,n<256→Lib.indexByte [32,9,10,35] n.toUInt8=EA n:=by decide +kernel
theorem qd (u:UInt8) (w:World) :
  Calls Tryz.prog 191 #[.string ⟨#[32,9,10,35]⟩,.int .u8 (u.toNat:Int)] w fun e w'=>e=.returned (.int .i64 (EA (u.toNat:Int)))∧w=w':=by
 refine (sg _ _ w).mono ?_;rintro e w' ⟨rfl,rfl⟩;refine ⟨bD ?_,rfl⟩;exact Ej u.toNat u.toNat_lt
def jN (b:Int):Bool:=decide (b=32) || decide (b=9) || decide (b=10)
theorem wm {b:Int} (h:jN b=true):0≤EA b:=by
 unfold jN at h;simp only [Bool.or_eq_true,decide_eq_true_eq] at h;rcases h with (h | h) | h <;> subst h <;> decide
theorem zG {b:Int} (h:¬ jN b=true) (f:b≠35):¬ 0≤EA b:=by
 unfold jN at h;simp only [Bool.or_eq_true,decide_eq_true_eq,not_or] at h;unfold EA;rw [if_neg h.1.1,if_neg h.1.2,if_neg h.2,if_neg f];omega
def md (l:List UInt8):Nat:=(l.takeWhile fun u=>jN (ci u)).length
theorem yI (s:ByteArray) (w:World) (W:s.size≤100000) (G:∀ j,(o:j<s.size)→ci s[j]≠35) :
  Calls Tryz.prog 136 #[.string s] w fun e w'=>e=.returned (.int .i64 (md s.data.toList))∧w=w':=by
 have J:=hide G;clear G;go_enter Tryz.func136,Tryz.ntmps136;go_wp2;go_loop [3] (fun n=>∃ k:Nat,k≤s.size∧n=.int .i64 k∧Hid (∀ j,(o:j<k)→(F:j<s.size)→jN (ci s[j])=true)) (fun n=>s.size-(intOf n).toNat)
 case atStart=>exact ⟨0,Nat.zero_le _,rfl,Lib.hid (fun j o=>by omega)⟩
 case round =>
  obtain ⟨k,V,rfl,H⟩:=hrel;by_cases f:k<s.size
  ·have O:((s[k].toNat:Int)==35)=false:=by have:=J.out k f;simpa [ci] using this
   have E:(s[k].toNat:Int)≠35:=J.out k f;by_cases hi:jN (ci s[k])=true
   ·have I:=Lib.hid hi
    have U:0≤EA (s[k].toNat:Int):=wm hi;clear hi;go_wp2_with (go_at_call 191;refine (qd _ _).mono ?_;rintro e w' ⟨rfl,rfl⟩);go_round
    case rel=>exact ⟨k+1,by omega,by go_num,Lib.hid (fun j o F=>by
     rcases Nat.lt_or_ge j k with h | h
     ·exact H.out j h F
     ·obtain rfl:j=k:=om
      exact I.out)⟩
    case measure=>simp [intOf];omega
   ·have I:=Lib.hid hi
    have U:¬ 0≤EA (s[k].toNat:Int):=zG hi E;clear hi;go_wp2_with (go_at_call 191;refine (qd _ _).mono ?_;rintro e w' ⟨rfl,rfl⟩);go_ret;refine ⟨bD ?_,rfl⟩;have:md s.data.toList=k:=d8 _ _ k (by rw [bK];exact f) (fun j o=>H.out j o om) (by have:=I.out;simp only [Bool.not_eq_true] at this;exact this);rw [this]
  ·go_wp2
   go_ret;refine ⟨bD ?_,rfl⟩;have:md s.data.toList=s.data.toList.length:=eR _ _ (fun j o=>H.out j (by have:=bK s;omega) (by have:=bK s;omega));rw [this,bK];show (k:Int)=(s.size:Int);omega
theorem ns (w:World) (s:ByteArray):∃ f cap,(convert 9 111 (.string s)).run Tryz.prog w=.ok (.slice (some ⟨w,0,none⟩) s.size cap) f∧Below w w f∧f.heap.size=w.heap.size+1 ∧
  ∀ j,(o:j<s.size)→f.cell? ⟨w,j,none⟩=some (.int .u8 (s[j].toNat:Int)):=by
 refine ⟨Lib.bytesWorld w 5 s,_,Lib.run_convert_string_bytes (P:=Tryz.prog) w 9 111 5 s Tryz.underlying9 Tryz.underlying111 Tryz.underlying5,⟨?_,?_,?_,?_,fun k F=>Lib.bytesWorld_at_old w _ s k F⟩,Lib.bytesWorld_size w _ s,fun j o=>?_⟩
 ·simp [Lib.bytesWorld,World.freeze];rfl
 ·simp [Lib.bytesWorld,World.freeze]
 ·simp [Lib.bytesWorld,World.freeze];rfl
 ·rw [Lib.bytesWorld_size];omega
 ·rw [Lib.bytesWorld_cell w _ s j o]
  have h:s.data.toList.getD j 0=s[j]:=by
   have E:s.data.toList[j]?=some s[j]:=by rw [List.getElem?_eq_getElem (by simpa using o)];rfl
   rw [List.getD_eq_getElem?_getD,E];rfl
  rw [h]
def jL (l:List UInt8):Int:=l.foldl (fun n u=>n*10+(ci u-48)) 0
theorem nM (l:List UInt8):eJ l≤l.length:=by
 unfold eJ;exact (List.takeWhile_sublist _).length_le
theorem AL (l:List UInt8) (j:Nat) (u:UInt8) (f:j<eJ l) (h:l[j]?=some u):dR (ci u)=true:=by
 induction l generalizing j with
 | nil=>simp at h
 | cons a l E =>
  unfold eJ at f;rw [List.takeWhile_cons] at f;by_cases o:dR (ci a)=true
  ·rw [if_pos o] at f
   cases j with
   | zero=>simp at h;rw [← h];exact o
   | succ j=>exact E j (by simpa [eJ] using f) (by simpa using h)
  ·rw [if_neg o] at f;simp at f
theorem rp (l:List UInt8) (k:Nat) (u:UInt8) (f:l[k]?=some u):jL (l.take (k+1))=jL (l.take k)*10+(ci u-48):=by
 rw [List.take_add_one,f];simp [jL]
theorem ET (l:List UInt8) (k:Nat) (E:k≤eJ l):0≤jL (l.take k)∧jL (l.take k)<10 ^ k:=by
 induction k with
 | zero=>simp [jL]
 | succ k o =>
  have F:=nM l;have f:l[k]?=some l[k]:=List.getElem?_eq_getElem om;have h:=AL l k _ om f;have hi:=o om;rw [rp l k _ f,Int.pow_succ];simp only [dR,decide_eq_true_eq] at h;omega
theorem sr (s:ByteArray) (m:Nat) (w:World) (hs:s.size≤100000) (W:eJ s.data.toList=m) (h1:1≤m) (h9:m≤9) (h0:0<s.size)
  (hz:ci s[0]=48→m≤1) (hi:∀ h:m<s.size,gC (ci s[m])=false) :
  Calls Tryz.prog 194 #[.string s] w fun e w'=>e=.returned (.tuple #[jL (s.data.toList.take m),m,.int .i64 0])∧Below w w w':=by
 have f:m≤s.size:=by have:=nM s.data.toList;rw [W,bK] at this;exact this
 have J:=hide W;clear W;obtain ⟨w1,cap,hr,hb,ah,U⟩:=ns w (s.extract 0 m);have G:(s.extract 0 m).size=m:=ag;have HC:=hide (fun j (F:j<m)=>show w1.cell? ⟨w,j,none⟩=some (.int .u8 ((s[j]'(Nat.lt_of_lt_of_le F f)).toNat:Int)) from by
  rw [U j (by rw [G];exact F)];have e:(s.extract 0 m)[j]'(by rw [G];exact F)=s[j]'(Nat.lt_of_lt_of_le F f):=by
   simp [ByteArray.getElem_eq_getElem_data,ByteArray.data_extract]
  rw [e])
 have HD:=hide (fun j (F:j<m)=>show 48≤((s[j]'(Nat.lt_of_lt_of_le F f)).toNat:Int)∧((s[j]'(Nat.lt_of_lt_of_le F f)).toNat:Int)≤57 from by
  have h:=AL s.data.toList j (s[j]'(Nat.lt_of_lt_of_le F f)) (by rw [J.out];exact F) (by rw [List.getElem?_eq_getElem (by rw [bK];omega)];rfl);exact of_decide_eq_true h)
 have HB:=hide hb;rw [G] at hr;clear U hb G;go_enter Tryz.func194,Tryz.ntmps194;go_wp2_with fail;refine (xd _ _ hs).mono ?_;rintro e w' ⟨rfl,rfl⟩;rw [J.out];have E:((s[0].toNat:Int)=48∧m≤1)∨¬ (s[0].toNat:Int)=48:=by
  by_cases h:(s[0].toNat:Int)=48
  ·exact Or.inl ⟨h,hz h⟩
  ·exact Or.inr h
 have H:(¬ (m:Int)<(s.size:Int))∨∃ h:m<s.size,gC (s[m].toNat:Int)=false:=by
  rcases Nat.lt_or_ge m s.size with h | h
  ·exact Or.inr ⟨h,hi h⟩
  ·exact Or.inl om
 clear hz hi;rcases E with ⟨aa,ac⟩ | aa <;> rcases H with Y | ⟨Y,ab⟩
 all_goals
  go_wp2_with (go_at_call 66;refine (lg _ _).mono ?_;rintro e w' ⟨rfl,rfl⟩);go_loop [2,37] (fun n j=>∃ k:Nat,k≤m∧n=.int .i64 (jL (s.data.toList.take k))∧j=.int .i64 k) (fun _ j=>m-(intOf j).toNat)
  case atStart=>exact ⟨0,Nat.zero_le _,rfl,rfl⟩
  case round =>
   obtain ⟨k,hk,rfl,rfl⟩:=hrel;by_cases o:k<m
   ·have U:=HC.out k o
    have hd:=HD.out k o;have hu:s.data.toList[k]?=some (s[k]'(Nat.lt_of_lt_of_le o f)):=by rw [List.getElem?_eq_getElem (by rw [bK];omega)];rfl
    have HS:=hide (rp s.data.toList k _ hu);have I:=ET s.data.toList k (by rw [J.out];omega);have O:(10:Int) ^ k≤10 ^ 8:=by
     have:=Nat.pow_le_pow_right (n:=10) om (show k≤8 by omega)
     exact_mod_cast this
    have hq:jL (s.data.toList.take k)<100000000:=om;have ad:=I.1;clear I O hu;unfold ci at HS;generalize jL (s.data.toList.take k)=n at *;generalize ((s[k]'(Nat.lt_of_lt_of_le o f)).toNat:Int)=x at *;have e1:IntKind.u8.wrap (x-48)=x-48:=by simp [IntKind.wrap,IntKind.bits,IntKind.signed];omega
    have e2:IntKind.i64.wrap (n*10)=n*10:=by simp [IntKind.wrap,IntKind.bits,IntKind.signed];omega
    have e3:IntKind.i64.wrap (n*10+(x-48))=n*10+(x-48):=by simp [IntKind.wrap,IntKind.bits,IntKind.signed];omega
    go_wp2;go_round
    case rel=>exact ⟨k+1,o,by rw [HS.out],by go_num⟩
    case measure=>simp [intOf];omega
   ·have V:k=m:=om
    subst V;go_wp2;exact bodyPost_ret (v:=.tuple #[jL (s.data.toList.take k),k,.int .i64 0]) (by simp (maxDischargeDepth:=9) [results,Tryz.results194,go_sem]) rfl ⟨rfl,HB.out⟩
abbrev ck (k at_ n:Int) (s:ByteArray):Value:=.agg #[k,at_,n,.string s]
theorem fY (s:ByteArray) (m:Int) (w:World) (H:0<s.size) (h:oK (ci s[0])≠0) (o:m≠8192) :
  Calls Tryz.prog 137 #[.string s,m] w fun e w'=>e=.returned (.tuple #[ck (oK (ci s[0])) 0 0 ⟨#[]⟩,.int .i64 1,.int .i64 0])∧Below w w w':=by
 have G:(m==8192)=false:=by simpa using o
 obtain ⟨k,f⟩:∃ k,oK (s[0].toNat:Int)=k:=⟨_,rfl⟩;have F:decide (k≠0)=true:=decide_eq_true (by rw [← f];exact h);have E:=hide f;rw [show oK (ci s[0])=k from f];clear h o f;go_enter Tryz.func137,Tryz.ntmps137;go_wp2_with fail;refine (mL _ _).mono ?_;rintro e I ⟨rfl,rfl⟩;rw [E.out,F];go_wp2_with fail;exact bodyPost_ret (v:=.tuple #[ck k 0 0 ⟨#[]⟩,.int .i64 1,.int .i64 0]) (by simp (maxDischargeDepth:=9) [results,Tryz.results137,go_sem,World.cell?_alloc_at,World.cell?_alloc_past]) rfl ⟨rfl,by (repeat' exact bel)⟩
theorem nT (s:ByteArray) (n:Nat) (m:Int) (w:World) (hs:s.size≤100000) (O:0<s.size) (E:dR (ci s[0])=true) (hm:m≠8192) (hn:eJ s.data.toList=n) (W:n≤9)
    (hz:ci s[0]=48→n≤1) (hi:∀ h:n<s.size,gC (ci s[n])=false) :
    Calls Tryz.prog 137 #[.string s,m] w fun e w'=>e=.returned (.tuple #[ck 2 0 (jL (s.data.toList.take n)) ⟨#[]⟩,n,.int .i64 0])∧Below w w w':=by
  have aa:(m==8192)=false:=by simpa using hm
  have H:48≤(s[0].toNat:Int)∧(s[0].toNat:Int)≤57:=of_decide_eq_true E;have U:1≤n:=by
    rcases Nat.lt_or_ge 0 n with h | h
    · exact h
    · have h2 : eJ s.data.toList ≠ 0 := by
        unfold eJ;have e:s.data.toList=s[0]::s.data.toList.drop 1:=by
          have V:=List.drop_eq_getElem_cons (l:=s.data.toList) (i:=0) (by rw [bK];exact O);rw [List.drop_zero] at V;exact V
        rw [e,List.takeWhile_cons,if_pos E];simp
      omega
  have HN:=hide (fun w=>sr s n w hs hn U W O hz hi);have F:oK (s[0].toNat:Int)=0:=by
    unfold oK;rw [if_neg om,if_neg om,if_neg om]
  have hl:d6 (s[0].toNat:Int)=false:=by simp [d6];omega
  have I:dR (s[0].toNat:Int)=true:=E;have HK:=hide F;clear hm F E H hz hi hn W U;generalize jL (s.data.toList.take n)=v at *;go_enter Tryz.func137,Tryz.ntmps137;go_wp2_with fail;refine (mL _ _).mono ?_;rintro e w1 ⟨rfl,rfl⟩;rw [HK.out];simp only [ne_eq,not_true_eq_false,decide_false];go_wp2_with (first | (go_at_call 64;refine (il _ _).mono ?_;rintro e w' ⟨rfl,rfl⟩;rw [hl]) | (go_at_call 98;refine (gX _ _).mono ?_;rintro e w' ⟨rfl,rfl⟩;rw [I]) | fail);refine (HN.out _).mono ?_;rintro e o ⟨rfl,f⟩;have r0:o.cell? ⟨w,0,none⟩=some (.int .i64 0):=ap f;have f0:o.frozen? ⟨w,0,none⟩=false:=an f;have r1:o.cell? ⟨w,1,none⟩=some (.int .i64 0):=ap f;have f1:o.frozen? ⟨w,1,none⟩=false:=an f;have r2:o.cell? ⟨w,2,none⟩=some (.int .i64 0):=ap f;have f2:o.frozen? ⟨w,2,none⟩=false:=an f;have r3:o.cell? ⟨w,3,none⟩=some (.string ⟨#[]⟩):=ap f;have f3:o.frozen? ⟨w,3,none⟩=false:=an f;have J:w.heap.size<o.heap.size:=am f;have G:=hide (show Below w w o by (repeat' exact bel));have Y:=G.out;clear f;go_wp2_with fail;exact bodyPost_ret (v:=.tuple #[ck 2 0 v ⟨#[]⟩,n,.int .i64 0]) (by simp (maxDischargeDepth:=9) [results,Tryz.results137,go_sem,r0,r1,r2,r3,f0,f1,f2,f3,J]) rfl ⟨rfl,by (repeat' exact bel)⟩
theorem dS (s:ByteArray) (n:Nat) (m:Int) (w:World) (W:s.size≤1000) (Y:0<s.size) (f:d6 (ci s[0])=true) (G:m≠8192) (F:iS s.data.toList=n) (J:n≤16) :
  Calls Tryz.prog 137 #[.string s,m] w fun e w'=>e=.returned (.tuple #[ck 1 0 0 (s.extract 0 n),n,.int .i64 0])∧Below w w w':=by
 have V:(m==8192)=false:=by simpa using G
 have o:97≤(s[0].toNat:Int)∧(s[0].toNat:Int)≤122:=of_decide_eq_true f;have h:oK (s[0].toNat:Int)=0:=by
  unfold oK;rw [if_neg om,if_neg om,if_neg om]
 have E:dR (s[0].toNat:Int)=false:=by simp [dR];omega
 have O:d6 (s[0].toNat:Int)=true:=f;have U:n≤s.size:=by have:=vV s.data.toList;rw [F,bK] at this;exact this
 have H:=hide h;have I:=hide F;clear G h f o F;go_enter Tryz.func137,Tryz.ntmps137;go_wp2_with fail;refine (mL _ _).mono ?_;rintro e w1 ⟨rfl,rfl⟩;rw [H.out];simp only [ne_eq,not_true_eq_false,decide_false];go_wp2_with (first | (go_at_call 64;refine (il _ _).mono ?_;rintro e w' ⟨rfl,rfl⟩;rw [O]) | (go_at_call 98;refine (gX _ _).mono ?_;rintro e w' ⟨rfl,rfl⟩;rw [E]) | (go_at_call 65;refine (nO _ _ W).mono ?_;rintro e w' ⟨rfl,rfl⟩;rw [I.out]) | fail);exact bodyPost_ret (v:=.tuple #[ck 1 0 0 (s.extract 0 n),n,.int .i64 0]) (by simp (maxDischargeDepth:=9) [results,Tryz.results137,go_sem,World.cell?_alloc_at,World.cell?_alloc_past]) rfl ⟨rfl,by (repeat' exact bel)⟩
structure Tk where
 k:Int
 at_:Int
 n:Int
 s:ByteArray
def xA (t:Tk):List Value:=[.int .i64 t.k,.int .i64 t.at_,.int .i64 t.n,.string t.s]
abbrev oY (w:World) (b:Nat) (v:Value) (D:List Tk):Prop:=w.ownsRow b 200 4 v D.length (D.flatMap xA)
theorem AV:(Tryz.prog.info? 200).map (fun i=>(i.zero,i.size,i.bytes))=some (some (.agg #[.int .i64 0,.int .i64 0,.int .i64 0,.string ⟨#[]⟩]),4,40):=by kernel_rfl
theorem nZ {w w':World} {b:Nat} {v:Value} {l:List Tk} (h:oY w b v l) (J:Below w w w'):oY w' b v l:=by
 refine ⟨h.1,?_⟩;rcases h.2 with G | ⟨F,f,E,O,H,o,I⟩
 ·exact .inl G
 ·exact .inr ⟨F,f,E,O,H,(J.block F (Array.getElem?_eq_some_iff.1 o).1).trans o,I⟩
theorem CQ {I:Array Oper} {H:List Oper} {o:Oper} {a:Act} {Q:Exit→Act→World→Prop} {w:World} (J:o.guard=none) (s x:Operand)
  (ho:o.op=.call { callee:=.builtin .append,args:=#[s,x],argTypes:=#[190,190] }) (f:Nat) (v:Value) (m:List Tk) (p:Tk) (g:Nat)
  (hs:a.eval s=v) (G:oY w f v m) (hx:a.eval x=.slice (some ⟨g,0,none⟩) 1 1) (h0:w.cell? ⟨g,0,none⟩=some (.int .i64 p.k)) (h1:w.cell? ⟨g,1,none⟩=some (.int .i64 p.at_)) (h2:w.cell? ⟨g,2,none⟩=some (.int .i64 p.n)) (h3:w.cell? ⟨g,3,none⟩=some (.string p.s)) (aa:m.length≤100000) (F:f≤w.heap.size)
  (h:∀ v' w',oY w' f v' (m++[p])→Below f w w'→w.heap.size≤w'.heap.size→wpList Tryz.prog I Q H (a.put o.dst v') w'):wpList Tryz.prog I Q (o::H) a w:=by
 obtain ⟨i0,hi,O,U,V⟩:=info_parts AV;refine wpList_append_own w J s x 190 ho f 200 i0 (.agg #[.int .i64 0,.int .i64 0,.int .i64 0,.string ⟨#[]⟩]) 4 40 Tryz.underlying190 hi O U V rfl aj v m.length (m.flatMap xA) hs G ⟨g,0,none⟩ 1 1 (xA p) hx rfl ?_ ?_ ?_ ?_ F ?_
 ·intro j u E
  match j,E with
  | 0,E=>simp [xA] at E;subst E;simpa [Addr.add] using h0
  | 1,E=>simp [xA] at E;subst E;simpa [Addr.add] using h1
  | 2,E=>simp [xA] at E;subst E;simpa [Addr.add] using h2
  | 3,E=>simp [xA] at E;subst E;simpa [Addr.add] using h3
 ·intro u hu
  simp [xA] at hu;rcases hu with rfl | rfl | rfl | rfl <;> rfl
 ·unfold maxLen;omega
 ·omega
 ·intro v' w' W Y _
  exact h v' w' (by unfold oY;rw [List.length_append,List.flatMap_append];simpa using W) ((Below.refl f w).grown Y F fun k hk=>(G.lt k hk).1) Y.size
structure GO (s:ByteArray) (D:List Tk) (L:Nat→Nat) (p:Nat→Nat):Prop where
 first:∀ w,Calls Tryz.prog 136 #[.string s] w fun e w'=>e=.returned (.int .i64 (p 0))∧w=w'
 last:p D.length=s.size
 lt:∀ i,i<D.length→p i<s.size∧p i+L i≤s.size∧L i≤1000∧p i<p (i+1)∧p (i+1)≤s.size
 at_:∀ i t,D[i]?=some t→t.at_=(p i:Int)
 tok:∀ i t,D[i]?=some t→∀ m w,m≠8192→Calls Tryz.prog 137 #[.string (s.extract (p i) s.size),.int .i64 m] w fun e w'=>e=.returned (.tuple #[ck t.k 0 t.n t.s,L i,.int .i64 0])∧Below w w w'
 free:∀ i,i<D.length→∀ w,Calls Tryz.prog 136 #[.string (s.extract (p i+L i) s.size)] w fun e w'=>e=.returned (.int .i64 ((p (i+1):Int)-(p i+L i)))∧w=w'
theorem Ct (s:ByteArray) (D:List Tk) (L p:Nat→Nat) (w:World) (hs:s.size≤1000) (hD:D.length≤1000) (H:GO s D L p) :
  Calls Tryz.prog 103 #[.string s] w fun e w'=>∃ v,e=.returned (.tuple #[v,.int .i64 0,.int .i64 0])∧oY w' w.heap.size v D∧Below w w w':=by
 have U:=hide H;clear H;go_enter Tryz.func103,Tryz.ntmps103;go_wp2_with (go_at_call 136;refine (U.out.first _).mono ?_;rintro e w' ⟨rfl,rfl⟩);go_loopw [5,6] (fun v a wr=>∃ i:Nat,a=.int .i64 (p i)∧i≤D.length∧oY wr w.heap.size v (D.take i)∧Below w w wr) (fun _ a _=>(s.size+1-(intOf a).toNat))
 case atStart=>exact ⟨0,rfl,Nat.zero_le _,World.ownsRow_nil _ _ _ _,Below.refl _ _⟩
 case round =>
  obtain ⟨i,rfl,hi,ho,hb⟩:=hrel;have aA:(D.take i).length=i:=by rw [List.length_take];omega
  obtain ⟨Y,cp,rfl⟩:∃ Y cp,u5=Value.slice Y i cp:=by
   rcases ho.2 with h1 | ⟨g',a1,a2,h1,_⟩
   ·exact ⟨none,0,by rw [h1.1];congr 1;omega⟩
   ·exact ⟨_,_,by rw [h1,aA]⟩
  have HO:=hide ho;have HB:=hide hb;have hz:w.heap.size≤wr.heap.size:=hb.size;clear ho hb;by_cases G:i<D.length
  ·obtain ⟨t,ht⟩:∃ t,D[i]?=some t:=⟨_,List.getElem?_eq_getElem G⟩
   obtain ⟨l1,l2,l3,l4,l5⟩:=U.out.lt i G;have HT:=hide (U.out.tok i t ht);have HF:=hide (U.out.free i G);have HA:=hide (U.out.at_ i t ht);have aB:((i:Nat):Int)≠8192:=om;obtain ⟨J,E⟩:∃ J,L i=J:=⟨_,rfl⟩;obtain ⟨o,f⟩:∃ o,p i=o:=⟨_,rfl⟩;obtain ⟨V,I⟩:∃ V,p (i+1)=V:=⟨_,rfl⟩;rw [E,f] at l2;rw [f] at l1;rw [E] at l3;rw [f,I] at l4;rw [I] at l5;rw [f,E] at HT;rw [f,E,I] at HF;rw [f] at HA ⊢;go_wp2_with fail;refine (HT.out _ _ aB).mono ?_;rintro e w2 ⟨rfl,F⟩;have ac:=hide (nZ HO.out F);have aa:=hide (HB.out.trans (F.mono hz));have a7:wr.heap.size≤w2.heap.size:=F.size;clear F;have aq:=hide (show IntKind.i64.wrap ((o:Int)+(J:Int))=((o+J:Nat):Int) by simp [IntKind.wrap,IntKind.bits,IntKind.signed];omega);have a4:=aq.out;have a5:IntKind.i64.wrap (((o+J:Nat):Int)+((V:Int)-((o:Int)+(J:Int))))=(V:Int):=by simp [IntKind.wrap,IntKind.bits,IntKind.signed];omega
   go_wp2_with ((at_builtin;refine CQ rfl _ _ rfl w.heap.size _ (D.take i) ⟨t.k,o,t.n,t.s⟩ _ rfl ?hown rfl af af af af om ?hz ?_))
   case hown=>exact nZ ac.out ar
   case hz=>simp;omega
   intro v' w3 O W a3;have ao:=hide (show D.take (i+1)=D.take i++[⟨t.k,o,t.n,t.s⟩] by
    rw [List.take_add_one,ht];congr 1;cases t;have:=HA.out;simp only at this;subst this;rfl)
   rw [← ao.out] at O;have ah:=hide O;have ab:=hide (show Below w w w3 from Below.trans (Below.trans aa.out (show Below w w2 _ from by (repeat' exact bel))) W);clear O W;go_wp2_with fail;refine (HF.out _).mono ?_;rintro e w4 ⟨rfl,rfl⟩;have a6:IntKind.i64.wrap ((o:Int)+(J:Int)+((V:Int)-((o:Int)+(J:Int))))=(V:Int):=by simp [IntKind.wrap,IntKind.bits,IntKind.signed];omega
   go_wp2_with fail;go_roundw
   case rel=>exact ⟨i+1,by rw [I],G,ah.out,ab.out⟩
   case measure=>simp [intOf];omega
  ·obtain rfl:i=D.length:=om
   have a0:=U.out.last;rw [a0];have al:=hide (show oY wr w.heap.size (.slice Y D.length cp) D by have h:=HO.out;rwa [List.take_length] at h);go_wp2_with fail;exact bodyPost_ret (v:=.tuple #[.slice Y D.length cp,.int .i64 0,.int .i64 0]) (by simp (maxDischargeDepth:=9) [results,Tryz.results103,go_sem]) rfl ⟨_,rfl,al.out,HB.out⟩
end
end Go.Proofs.YtpebkobmhhnojaaGreatDoor
