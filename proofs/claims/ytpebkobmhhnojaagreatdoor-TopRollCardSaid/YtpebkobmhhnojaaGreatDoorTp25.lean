/- Lemmas. -/
import Derived.Lib.Builder
import Derived.Test.YtpebkobmhhnojaaGreatDoorTp01
import Derived.Test.YtpebkobmhhnojaaGreatDoorTp08
import Derived.Test.YtpebkobmhhnojaaGreatDoorTp10
import Derived.Test.YtpebkobmhhnojaaGreatDoorTp18
import Derived.Test.YtpebkobmhhnojaaGreatDoorTp21
set_option linter.unusedSimpArgs false
set_option linter.unusedVariables false
set_option maxRecDepth 100000
set_option maxHeartbeats 12800000
namespace Go.Proofs.YtpebkobmhhnojaaGreatDoor
section
open Go.RowKit Qd
abbrev Pl:=ByteArray × Int × Nat × List Value
def DG (t:It):Pl:=(t.nm,t.at_,t.n,t.xs)
def As:It:=⟨⟨#[]⟩,0,.slice none 0 0,0,[]⟩
abbrev sN:Value:=.slice none 0 0
abbrev zh:Value:=.pointer none
def pw:Pl:=(⟨#[99,97,108,101,110,100,97,114]⟩,0,1,[.bool false,.int .i64 0,.string ⟨#[97]⟩,.int .i64 9])
def iD:Pl:=(⟨#[101,110,100]⟩,13,1,[.bool false,.int .i64 0,.string ⟨#[110,114,102]⟩,.int .i64 17])
def kM:Pl:=(⟨#[115,101,114,118,101]⟩,22,2,[.bool true,.int .i64 2023,.string ⟨#[]⟩,.int .i64 28,.bool true,.int .i64 2023,.string ⟨#[]⟩,.int .i64 33])
def mU:Pl:=(⟨#[99,111,109,112,97,114,101]⟩,39,1,[.bool false,.int .i64 0,.string ⟨#[100,114,111,112]⟩,.int .i64 47])
def SB (N R a:Nat) (l:List Pl) (w:World):Prop:=∃ h g o L f,DG f=pw∧L.map DG=l∧AT N w h R g 1 f true o (.pointer (some ⟨a,0,none⟩)) L [(a,AH As false sN zh)]
def SI (N R a:Nat) (l:List Pl) (q:Pl) (w:World):Prop:=∃ h o g E F L f t,DG f=pw∧L.map DG=l∧DG t=q∧AU N w h o R g E 1 f true F (.pointer (some ⟨a,0,none⟩)) L [(a,AH As false sN zh)] t
def S0 (N R a:Nat) (q:Pl) (w:World):Prop:=∃ f h g t,DG t=q∧AU N w f h R a g 0 As false sN zh [] [] t
def wF (w:World) (v:Value) (l:List Pl):Prop:=∃ f h L,DG f=pw∧L.map DG=l∧w.ownsRow 0 154 5 v 1 [.string f.nm,.int .i64 f.at_,f.v,.bool true,h]∧qt w 0 h L∧ic w 0 f∧∀ t∈L,ic w 0 t
def SF (R a:Nat) (l:List Pl) (w:World):Prop:=∃ v,w.heap[R]?=some (Br a none 0)∧w.heap[a]?=some (AH As false v zh)∧wF w v l
theorem ni {N R a:Nat} {l:List Pl} {w:World} (h:SB N R a l w) (f n:Int) (s:ByteArray) :
  Calls Tryz.prog 104 #[.pointer (some ⟨R,0,none⟩),ck 1 f n s] w fun e w'=>e=.returned (.int .i64 0)∧Below N w w'∧SI N R a l (s,f,0,[]) w':=by
 obtain ⟨o,g,J,L,O,G,I,h⟩:=h;refine (qM h f n s).mono ?_;rintro e w' ⟨rfl,H,E,F,hi⟩;exact ⟨rfl,H,o,E,g,F,J,L,O,_,G,I,rfl,hi⟩
theorem mh {N R a:Nat} {l:List Pl} {q:Pl} {w:World} (h:SI N R a l q w) (o f n:Int) (s:ByteArray) (E:o=1∨o=2) (U:q.2.2.1<8) :
  Calls Tryz.prog 105 #[.pointer (some ⟨R,0,none⟩),ck o f n s] w fun e w'=>e=.returned (.int .i64 0)∧Below N w w'∧SI N R a l (q.1,q.2.1,q.2.2.1+1,q.2.2.2++[.bool (decide (o=2)),.int .i64 n,.string s,.int .i64 f]) w':=by
 obtain ⟨F,G,g,H,V,L,W,t,I,O,rfl,h⟩:=h;refine (ui h o f n s E U).mono ?_;rintro e w' ⟨rfl,J,v,hi⟩;exact ⟨rfl,J,F,G,g,H,V,L,W,_,I,O,rfl,hi⟩
theorem rJ {N R a:Nat} {l:List Pl} {q:Pl} {w:World} (h:SI N R a l q w) (f n:Int) (s:ByteArray) (G:l.length≤1000) :
  Calls Tryz.prog 105 #[.pointer (some ⟨R,0,none⟩),ck 5 f n s] w fun e w'=>e=.returned (.int .i64 0)∧Below N w w'∧SB N R a (l++[q]) w':=by
 obtain ⟨o,I,g,J,O,L,H,t,E,rfl,rfl,h⟩:=h;refine (Eh h f n s (by simpa using G)).mono ?_;rintro e w' ⟨rfl,F,v,hi⟩;exact ⟨rfl,F,o,g,v,_,H,E,by simp,hi⟩
theorem CB {N R a:Nat} {q:Pl} {w:World} (h:S0 N R a q w) (o f n:Int) (s:ByteArray) (E:o=1∨o=2) (I:q.2.2.1<8) :
  Calls Tryz.prog 105 #[.pointer (some ⟨R,0,none⟩),ck o f n s] w fun e w'=>e=.returned (.int .i64 0)∧Below N w w'∧S0 N R a (q.1,q.2.1,q.2.2.1+1,q.2.2.2++[.bool (decide (o=2)),.int .i64 n,.string s,.int .i64 f]) w':=by
 obtain ⟨F,G,g,t,rfl,h⟩:=h;refine (ui h o f n s E I).mono ?_;rintro e w' ⟨rfl,H,v,hi⟩;exact ⟨rfl,H,F,G,g,_,rfl,hi⟩
theorem Cc {N R a:Nat} {w:World} (h:S0 N R a pw w) (f n:Int) (s:ByteArray) :
  Calls Tryz.prog 105 #[.pointer (some ⟨R,0,none⟩),ck 3 f n s] w fun e w'=>e=.returned (.int .i64 0)∧Below N w w'∧SB N R a [] w':=by
 obtain ⟨G,o,g,t,E,h⟩:=h;refine (BJ h f n s aj).mono ?_;rintro e w' ⟨rfl,F,hi⟩;exact ⟨rfl,F,o,g,_,[],t,E,rfl,hi⟩
theorem yL {N R a:Nat} {l:List Pl} {w:World} (h:SB N R a l w) (f n:Int) (s:ByteArray) :
  Calls Tryz.prog 104 #[.pointer (some ⟨R,0,none⟩),ck 4 f n s] w fun e w'=>e=.returned (.int .i64 0)∧Below N w w'∧SF R a l w':=by
 obtain ⟨B1,g,W,L,Y,o,J,h⟩:=h;refine (AF h f n s aj).mono ?_;rintro e w' ⟨rfl,H,v,F,G,O,I,V,E⟩;exact ⟨rfl,H,v,F,G,Y,W,L,o,J,iY O (Nat.zero_le _),iY I (Nat.zero_le _),iY V (Nat.zero_le _),fun t U=>iY (E t U) (Nat.zero_le _)⟩
def Il (N R a:Nat) (w:World):Prop:=AT N w N R a 0 As false sN zh [] []
def Ia (N R a:Nat) (w:World):Prop:=S0 N R a (⟨#[99,97,108,101,110,100,97,114]⟩,0,0,[]) w
def Hh (N R a:Nat) (w:World):Prop:=S0 N R a pw w
def Hu (N R a:Nat) (w:World):Prop:=SB N R a [] w
def Hs (N R a:Nat) (w:World):Prop:=SI N R a [] (⟨#[101,110,100]⟩,13,0,[]) w
def Hm (N R a:Nat) (w:World):Prop:=SI N R a [] iD w
def G9 (N R a:Nat) (w:World):Prop:=SB N R a [iD] w
def G8 (N R a:Nat) (w:World):Prop:=SI N R a [iD] (⟨#[115,101,114,118,101]⟩,22,0,[]) w
def Ih (N R a:Nat) (w:World):Prop:=SI N R a [iD] (⟨#[115,101,114,118,101]⟩,22,1,[.bool true,.int .i64 2023,.string ⟨#[]⟩,.int .i64 28]) w
def H9 (N R a:Nat) (w:World):Prop:=SI N R a [iD] kM w
def D8 (N R a:Nat) (w:World):Prop:=SB N R a [iD,kM] w
def EE (N R a:Nat) (w:World):Prop:=SI N R a [iD,kM] (⟨#[99,111,109,112,97,114,101]⟩,39,0,[]) w
def EO (N R a:Nat) (w:World):Prop:=SI N R a [iD,kM] mU w
def El (N R a:Nat) (w:World):Prop:=SB N R a [iD,kM,mU] w
def FJ (N R a:Nat) (w:World):Prop:=SF R a [iD,kM,mU] w
def St (N R a:Nat) (w:World) (i:Nat):Prop:=
 match i with
 | 0=>Il N R a w
 | 1=>Ia N R a w
 | 2=>Hh N R a w
 | 3=>Hu N R a w
 | 4=>Hs N R a w
 | 5=>Hm N R a w
 | 6=>G9 N R a w
 | 7=>G8 N R a w
 | 8=>Ih N R a w
 | 9=>H9 N R a w
 | 10=>D8 N R a w
 | 11=>EE N R a w
 | 12=>EO N R a w
 | 13=>El N R a w
 | _=>FJ N R a w
def Cj (i:Nat):Bool:=i==0 || i==3 || i==6 || i==10 || i==13 || i==14
theorem GV {N R a:Nat} {w:World} (h:Il N R a w):Calls Tryz.prog 104 #[.pointer (some ⟨R,0,none⟩),ck 1 0 0 ⟨#[99,97,108,101,110,100,97,114]⟩] w fun e w'=>e=.returned (.int .i64 0)∧Below N w w'∧Ia N R a w':=by
 refine (qM h 0 0 ⟨#[99,97,108,101,110,100,97,114]⟩).mono ?_;rintro e w' ⟨rfl,E,f,o,hi⟩;exact ⟨rfl,E,N,f,o,_,rfl,hi⟩
theorem Hd {N R a:Nat} {w:World} (h:Ia N R a w):Calls Tryz.prog 105 #[.pointer (some ⟨R,0,none⟩),ck 1 9 0 ⟨#[97]⟩] w fun e w'=>e=.returned (.int .i64 0)∧Below N w w'∧Hh N R a w':=by
 exact (CB h 1 9 0 ⟨#[97]⟩ aj aj).mono fun e w' ⟨f,h2,h3⟩=>⟨f,h2,h3⟩
theorem Hv {N R a:Nat} {w:World} (h:Hh N R a w):Calls Tryz.prog 105 #[.pointer (some ⟨R,0,none⟩),ck 3 11 0 ⟨#[]⟩] w fun e w'=>e=.returned (.int .i64 0)∧Below N w w'∧Hu N R a w':=by
 exact (Cc h 11 0 ⟨#[]⟩).mono fun e w' ⟨f,h2,h3⟩=>⟨f,h2,h3⟩
theorem Ha {N R a:Nat} {w:World} (h:Hu N R a w):Calls Tryz.prog 104 #[.pointer (some ⟨R,0,none⟩),ck 1 13 0 ⟨#[101,110,100]⟩] w fun e w'=>e=.returned (.int .i64 0)∧Below N w w'∧Hs N R a w':=by
 exact (ni h 13 0 ⟨#[101,110,100]⟩).mono fun e w' ⟨f,h2,h3⟩=>⟨f,h2,h3⟩
theorem Hr {N R a:Nat} {w:World} (h:Hs N R a w):Calls Tryz.prog 105 #[.pointer (some ⟨R,0,none⟩),ck 1 17 0 ⟨#[110,114,102]⟩] w fun e w'=>e=.returned (.int .i64 0)∧Below N w w'∧Hm N R a w':=by
 exact (mh h 1 17 0 ⟨#[110,114,102]⟩ aj aj).mono fun e w' ⟨f,h2,h3⟩=>⟨f,h2,h3⟩
theorem If {N R a:Nat} {w:World} (h:Hm N R a w):Calls Tryz.prog 105 #[.pointer (some ⟨R,0,none⟩),ck 5 20 0 ⟨#[]⟩] w fun e w'=>e=.returned (.int .i64 0)∧Below N w w'∧G9 N R a w':=by
 exact (rJ h 20 0 ⟨#[]⟩ aj).mono fun e w' ⟨f,h2,h3⟩=>⟨f,h2,h3⟩
theorem G4 {N R a:Nat} {w:World} (h:G9 N R a w):Calls Tryz.prog 104 #[.pointer (some ⟨R,0,none⟩),ck 1 22 0 ⟨#[115,101,114,118,101]⟩] w fun e w'=>e=.returned (.int .i64 0)∧Below N w w'∧G8 N R a w':=by
 exact (ni h 22 0 ⟨#[115,101,114,118,101]⟩).mono fun e w' ⟨f,h2,h3⟩=>⟨f,h2,h3⟩
theorem He {N R a:Nat} {w:World} (h:G8 N R a w):Calls Tryz.prog 105 #[.pointer (some ⟨R,0,none⟩),ck 2 28 2023 ⟨#[]⟩] w fun e w'=>e=.returned (.int .i64 0)∧Below N w w'∧Ih N R a w':=by
 exact (mh h 2 28 2023 ⟨#[]⟩ aj aj).mono fun e w' ⟨f,h2,h3⟩=>⟨f,h2,h3⟩
theorem Ii {N R a:Nat} {w:World} (h:Ih N R a w):Calls Tryz.prog 105 #[.pointer (some ⟨R,0,none⟩),ck 2 33 2023 ⟨#[]⟩] w fun e w'=>e=.returned (.int .i64 0)∧Below N w w'∧H9 N R a w':=by
 exact (mh h 2 33 2023 ⟨#[]⟩ aj aj).mono fun e w' ⟨f,h2,h3⟩=>⟨f,h2,h3⟩
theorem GX {N R a:Nat} {w:World} (h:H9 N R a w):Calls Tryz.prog 105 #[.pointer (some ⟨R,0,none⟩),ck 5 37 0 ⟨#[]⟩] w fun e w'=>e=.returned (.int .i64 0)∧Below N w w'∧D8 N R a w':=by
 exact (rJ h 37 0 ⟨#[]⟩ aj).mono fun e w' ⟨f,h2,h3⟩=>⟨f,h2,h3⟩
theorem Gn {N R a:Nat} {w:World} (h:D8 N R a w):Calls Tryz.prog 104 #[.pointer (some ⟨R,0,none⟩),ck 1 39 0 ⟨#[99,111,109,112,97,114,101]⟩] w fun e w'=>e=.returned (.int .i64 0)∧Below N w w'∧EE N R a w':=by
 exact (ni h 39 0 ⟨#[99,111,109,112,97,114,101]⟩).mono fun e w' ⟨f,h2,h3⟩=>⟨f,h2,h3⟩
theorem Gs {N R a:Nat} {w:World} (h:EE N R a w):Calls Tryz.prog 105 #[.pointer (some ⟨R,0,none⟩),ck 1 47 0 ⟨#[100,114,111,112]⟩] w fun e w'=>e=.returned (.int .i64 0)∧Below N w w'∧EO N R a w':=by
 exact (mh h 1 47 0 ⟨#[100,114,111,112]⟩ aj aj).mono fun e w' ⟨f,h2,h3⟩=>⟨f,h2,h3⟩
theorem Ga {N R a:Nat} {w:World} (h:EO N R a w):Calls Tryz.prog 105 #[.pointer (some ⟨R,0,none⟩),ck 5 51 0 ⟨#[]⟩] w fun e w'=>e=.returned (.int .i64 0)∧Below N w w'∧El N R a w':=by
 exact (rJ h 51 0 ⟨#[]⟩ aj).mono fun e w' ⟨f,h2,h3⟩=>⟨f,h2,h3⟩
theorem GI {N R a:Nat} {w:World} (h:El N R a w):Calls Tryz.prog 104 #[.pointer (some ⟨R,0,none⟩),ck 4 53 0 ⟨#[]⟩] w fun e w'=>e=.returned (.int .i64 0)∧Below N w w'∧FJ N R a w':=by
 exact (yL h 53 0 ⟨#[]⟩).mono fun e w' ⟨f,h2,h3⟩=>⟨f,h2,h3⟩
theorem lZ {N R a:Nat} {l:List Pl} {w:World} (h:SB N R a l w):∃ b d,w.heap[R]?=some (Br b none d):=by
 obtain ⟨f,g,F,L,G,o,E,h⟩:=h;exact ⟨_,_,h.hR⟩
theorem iq {N R a:Nat} {l:List Pl} {q:Pl} {w:World} (h:SI N R a l q w):∃ b g d,w.heap[R]?=some (Br b (some ⟨g,0,none⟩) d):=by
 obtain ⟨f,o,g,E,I,L,J,t,F,G,H,h⟩:=h;exact ⟨_,_,_,h.hR⟩
theorem tZ {N R a:Nat} {q:Pl} {w:World} (h:S0 N R a q w):∃ b g d,w.heap[R]?=some (Br b (some ⟨g,0,none⟩) d):=by
 obtain ⟨f,o,g,t,E,h⟩:=h;exact ⟨_,_,_,h.hR⟩
theorem oD {N R a:Nat} {w:World} (i:Nat) (t:Tk) (hi:i<14) (f:Cj i=true) (o:rE[i]?=some t) (h:St N R a w i):(∃ b d,w.heap[R]?=some (Br b none d)) ∧
  Calls Tryz.prog 104 #[.pointer (some ⟨R,0,none⟩),ck t.k t.at_ t.n t.s] w fun e w'=>e=.returned (.int .i64 0)∧Below N w w'∧St N R a w' (i+1):=by
 match i,hi,f,o,h with
 | 0,_,_,o,h=>cases o;exact ⟨⟨_,_,h.hR⟩,GV h⟩
 | 1,_,f,_,_=>exact absurd f aj
 | 2,_,f,_,_=>exact absurd f aj
 | 3,_,_,o,h=>cases o;exact ⟨lZ h,Ha h⟩
 | 4,_,f,_,_=>exact absurd f aj
 | 5,_,f,_,_=>exact absurd f aj
 | 6,_,_,o,h=>cases o;exact ⟨lZ h,G4 h⟩
 | 7,_,f,_,_=>exact absurd f aj
 | 8,_,f,_,_=>exact absurd f aj
 | 9,_,f,_,_=>exact absurd f aj
 | 10,_,_,o,h=>cases o;exact ⟨lZ h,Gn h⟩
 | 11,_,f,_,_=>exact absurd f aj
 | 12,_,f,_,_=>exact absurd f aj
 | 13,_,_,o,h=>cases o;exact ⟨lZ h,GI h⟩
theorem uf {N R a:Nat} {w:World} (i:Nat) (t:Tk) (hi:i<14) (o:Cj i=false) (f:rE[i]?=some t) (h:St N R a w i):(∃ b g d,w.heap[R]?=some (Br b (some ⟨g,0,none⟩) d)) ∧
  Calls Tryz.prog 105 #[.pointer (some ⟨R,0,none⟩),ck t.k t.at_ t.n t.s] w fun e w'=>e=.returned (.int .i64 0)∧Below N w w'∧St N R a w' (i+1):=by
 match i,hi,o,f,h with
 | 0,_,o,_,_=>exact absurd o aj
 | 1,_,_,f,h=>cases f;exact ⟨tZ h,Hd h⟩
 | 2,_,_,f,h=>cases f;exact ⟨tZ h,Hv h⟩
 | 3,_,o,_,_=>exact absurd o aj
 | 4,_,_,f,h=>cases f;exact ⟨iq h,Hr h⟩
 | 5,_,_,f,h=>cases f;exact ⟨iq h,If h⟩
 | 6,_,o,_,_=>exact absurd o aj
 | 7,_,_,f,h=>cases f;exact ⟨iq h,He h⟩
 | 8,_,_,f,h=>cases f;exact ⟨iq h,Ii h⟩
 | 9,_,_,f,h=>cases f;exact ⟨iq h,GX h⟩
 | 10,_,o,_,_=>exact absurd o aj
 | 11,_,_,f,h=>cases f;exact ⟨iq h,Gs h⟩
 | 12,_,_,f,h=>cases f;exact ⟨iq h,Ga h⟩
 | 13,_,o,_,_=>exact absurd o aj
theorem aE {w w':World} {j:Nat} {o:Obj} (h:w.heap[j]?=some o) (f:Below w w w'):w'.heap[j]?=some o:=(f.block j (bC h)).trans h
theorem AT.call {N:Nat} {w w':World} {B R b:Nat} {d:Int} {k:It} {E:Bool} {H o:Value} {L:List It} {F:List (Nat × Obj)} (h:AT N w B R b d k E H o L F) (f:Below w w w'):AT N w' B R b d k E H o L F:=
 ⟨aE h.hR f,aE h.hb f,aO h.hk f,aO h.h0 f,fun t I=>aO (h.hL t I) f,fun p G=>⟨aE (h.hF p G).1 f,(h.hF p G).2⟩,Nat.le_trans h.hB f.size,h.hN⟩
theorem AU.call {N:Nat} {w w':World} {B E R b g:Nat} {d:Int} {k:It} {G:Bool} {J o:Value} {L:List It} {F:List (Nat × Obj)} {t:It} (h:AU N w B E R b g d k G J o L F t) (f:Below w w w'):AU N w' B E R b g d k G J o L F t:=
 ⟨aE h.hR f,aE h.hb f,aE h.hg f,h.hbg,aO h.hk f,⟨aO h.h0.1 f,h.h0.2⟩,fun t I=>⟨aO (h.hL t I).1 f,(h.hL t I).2⟩,aO h.ht f,fun p H=>⟨aE (h.hF p H).1 f,(h.hF p H).2⟩,⟨h.hB.1,Nat.le_trans h.hB.2 f.size⟩,h.hN⟩
theorem SB.call {N R a:Nat} {l:List Pl} {w w':World} (h:SB N R a l w) (E:Below w w w'):SB N R a l w':=by
 obtain ⟨f,g,G,L,H,o,F,h⟩:=h;exact ⟨f,g,G,L,H,o,F,h.call E⟩
theorem SI.call {N R a:Nat} {l:List Pl} {q:Pl} {w w':World} (h:SI N R a l q w) (G:Below w w w'):SI N R a l q w':=by
 obtain ⟨f,o,g,E,J,L,O,t,F,H,I,h⟩:=h;exact ⟨f,o,g,E,J,L,O,t,F,H,I,h.call G⟩
theorem S0.call {N R a:Nat} {q:Pl} {w w':World} (h:S0 N R a q w) (E:Below w w w'):S0 N R a q w':=by
 obtain ⟨f,o,g,t,F,h⟩:=h;exact ⟨f,o,g,t,F,h.call E⟩
theorem wF.call {w w':World} {v:Value} {l:List Pl} (h:wF w v l) (f:Below w w w'):wF w' v l:=by
 obtain ⟨U,O,L,o,I,E,F,G,H⟩:=h;exact ⟨U,O,L,o,I,aO E f,aO F f,aO G f,fun t J=>aO (H t J) f⟩
theorem St.call {N R a:Nat} {w w':World} (i:Nat) (hi:i<14) (h:St N R a w i) (f:Below w w w'):St N R a w' i:=by
 match i,hi,h with
 | 0,_,h=>exact AT.call h f
 | 1,_,h=>exact S0.call h f
 | 2,_,h=>exact S0.call h f
 | 3,_,h=>exact SB.call h f
 | 4,_,h=>exact SI.call h f
 | 5,_,h=>exact SI.call h f
 | 6,_,h=>exact SB.call h f
 | 7,_,h=>exact SI.call h f
 | 8,_,h=>exact SI.call h f
 | 9,_,h=>exact SI.call h f
 | 10,_,h=>exact SB.call h f
 | 11,_,h=>exact SI.call h f
 | 12,_,h=>exact SI.call h f
 | 13,_,h=>exact SB.call h f
theorem vK (i:Nat) (t:Tk) (h:rE[i]?=some t):(rE.flatMap xA)[i*4]?=some (.int .i64 t.k)∧(rE.flatMap xA)[i*4+1]?=some (.int .i64 t.at_)∧(rE.flatMap xA)[i*4+2]?=some (.int .i64 t.n)∧(rE.flatMap xA)[i*4+3]?=some (.string t.s):=by
 match i,h with
 | 0,h=>cases h;exact ⟨rfl,rfl,rfl,rfl⟩
 | 1,h=>cases h;exact ⟨rfl,rfl,rfl,rfl⟩
 | 2,h=>cases h;exact ⟨rfl,rfl,rfl,rfl⟩
 | 3,h=>cases h;exact ⟨rfl,rfl,rfl,rfl⟩
 | 4,h=>cases h;exact ⟨rfl,rfl,rfl,rfl⟩
 | 5,h=>cases h;exact ⟨rfl,rfl,rfl,rfl⟩
 | 6,h=>cases h;exact ⟨rfl,rfl,rfl,rfl⟩
 | 7,h=>cases h;exact ⟨rfl,rfl,rfl,rfl⟩
 | 8,h=>cases h;exact ⟨rfl,rfl,rfl,rfl⟩
 | 9,h=>cases h;exact ⟨rfl,rfl,rfl,rfl⟩
 | 10,h=>cases h;exact ⟨rfl,rfl,rfl,rfl⟩
 | 11,h=>cases h;exact ⟨rfl,rfl,rfl,rfl⟩
 | 12,h=>cases h;exact ⟨rfl,rfl,rfl,rfl⟩
 | 13,h=>cases h;exact ⟨rfl,rfl,rfl,rfl⟩
 | i+14,h=>simp [rE] at h
theorem AB (a:Addr) (w:World):(binOp .neq 193 (.pointer (some a)) (.pointer (some a))).run Tryz.prog w=.ok (.bool false) w:=by
 have hi:(Tryz.prog.info? 195).isSome=true:=by kernel_rfl
 obtain ⟨j,f⟩:=Option.isSome_iff_exists.1 hi;exact Lib.run_neq_ptr_same w a Tryz.underlying193 f
theorem yq (w:World):Calls Tryz.prog 74 #[.string bY] w fun e w'=>∃ v,e=.returned (.tuple #[v,.int .i64 0,.int .i64 0])∧wF w' v [iD,kM,mU]∧Below w w w':=by
 have HC:=hide (EZ w);have a3:bY.size=54:=rfl;generalize bY=tx at *;go_enter Tryz.func74,Tryz.ntmps74;go_wp2_with fail;refine (HC.out).mono ?_;rintro e f ⟨v,rfl,ho,Y⟩;obtain ⟨J,a0,rfl,a1,O,ad⟩:=bf ho aj;have I:=hide ad;have ao:=hide Y;have aB:=Y.size;have ah:rE.length=14:=rfl;rw [ah];clear ho Y ad;go_wp2_with fail;go_loopw [31] (fun x wr=>∃ i:Nat,x=.int .i64 (i:Int)∧i≤14∧St f.heap.size (f.heap.size+1) f.heap.size wr i∧Below f f wr) (fun x _=>14-(intOf x).toNat)
 case atStart =>
  refine ⟨0,rfl,by omega,?_,by (repeat' exact bel)⟩;have h:=heap_alloc_new (f.alloc (.cells #[.string ⟨#[]⟩,.int .i64 0,.slice none 0 0,.bool false,.slice none 0 0,.pointer none] 195)) (.cells #[.pointer (some ⟨f,0,none⟩),.pointer none,.int .i64 0] 198);have aA:(f.alloc (.cells #[.string ⟨#[]⟩,.int .i64 0,.slice none 0 0,.bool false,.slice none 0 0,.pointer none] 195)).heap.size=f.heap.size+1:=af;rw [aA] at h;exact ⟨h,aD (heap_alloc_new f _),World.ownsRow_nil _ _ _ _,World.ownsRow_nil _ _ _ _,fun t ht=>(by simp at ht),fun p hp=>(by simp at hp),by simp;omega,by omega,by omega,by omega⟩
 case round =>
  obtain ⟨i,rfl,hi,al,hb⟩:=hrel;have HS:=hide al;have HB:=hide hb;have hz:=hb.size;clear al hb;by_cases F:i<14
  ·obtain ⟨t,ht⟩:∃ t,rE[i]?=some t:=⟨_,List.getElem?_eq_getElem (by rw [ah];exact F)⟩
   obtain ⟨k0,k1,k2,k3⟩:=vK i t ht;have d0:wr.cell? ⟨J,i*4,none⟩=some (.int .i64 t.k):=(HB.out.cell (p:=⟨J,i*4,none⟩) O).trans (I.out _ _ k0);have d1:wr.cell? ⟨J,i*4+1,none⟩=some (.int .i64 t.at_):=(HB.out.cell (p:=⟨J,i*4+1,none⟩) O).trans (I.out _ _ k1);have d2:wr.cell? ⟨J,i*4+2,none⟩=some (.int .i64 t.n):=(HB.out.cell (p:=⟨J,i*4+2,none⟩) O).trans (I.out _ _ k2);have d3:wr.cell? ⟨J,i*4+3,none⟩=some (.string t.s):=(HB.out.cell (p:=⟨J,i*4+3,none⟩) O).trans (I.out _ _ k3);have HT:=hide ht;clear k0 k1 k2 k3 ht;have ab:=hide (St.call i F HS.out (show Below wr wr (wr.alloc (.cells #[.int .i64 t.k,.int .i64 t.at_,.int .i64 t.n,.string t.s] 200)) by (repeat' exact bel)));have a2:J<wr.heap.size:=om;have aa:=hide (show Below f f (wr.alloc (.cells #[.int .i64 t.k,.int .i64 t.at_,.int .i64 t.n,.string t.s] 200)) from HB.out.alloc hz _);by_cases E:Cj i=true
   ·obtain ⟨b,d,G⟩:=(oD i t F E HT.out HS.out).1
    have HK:=hide (oD i t F E HT.out ab.out).2;have r1:wr.cell? ⟨f+1,1,none⟩=some (.pointer none):=ae G 1;have ac:f.heap.size+1<wr.heap.size:=bC G;go_wp2_with fail;clear G d0 d1 d2 d3;generalize (wr.alloc (.cells #[.int .i64 t.k,.int .i64 t.at_,.int .i64 t.n,.string t.s] 200))=W at *;refine (HK.out).mono ?_;rintro e w3 ⟨rfl,H,o⟩;have V:=hide o;have U:=hide (aa.out.trans H);clear H o;go_wp2_with fail;go_roundw
    case rel=>exact ⟨i+1,by go_num,by omega,V.out,U.out⟩
    case measure=>simp [intOf];omega
   ·have E:Cj i=false:=by simpa using E
    obtain ⟨b,g,d,G⟩:=(uf i t F E HT.out HS.out).1;have HK:=hide (uf i t F E HT.out ab.out).2;have r1:wr.cell? ⟨f+1,1,none⟩=some (.pointer (some ⟨g,0,none⟩)):=ae G 1;have ac:f.heap.size+1<wr.heap.size:=bC G;go_wp2_with fail;clear G d0 d1 d2 d3;generalize (wr.alloc (.cells #[.int .i64 t.k,.int .i64 t.at_,.int .i64 t.n,.string t.s] 200))=W at *;refine (HK.out).mono ?_;rintro e w3 ⟨rfl,H,o⟩;have V:=hide o;have U:=hide (aa.out.trans H);clear H o;go_wp2_with fail;go_roundw
    case rel=>exact ⟨i+1,by go_num,by omega,V.out,U.out⟩
    case measure=>simp [intOf];omega
  ·obtain rfl:i=14:=om
   obtain ⟨v,G,ha,hT⟩:=HS.out;obtain ⟨gv,cv,rfl⟩:∃ gv cv,v=.slice gv 1 cv:=by
    obtain ⟨t0,ks,L,-,-,h1,-⟩:=hT;exact dN h1
   have ac:f.heap.size+1<wr.heap.size:=bC G;have r0:wr.cell? ⟨f+1,0,none⟩=some (.pointer (some ⟨f,0,none⟩)):=ae G 0;have r1:wr.cell? ⟨f+1,1,none⟩=some (.pointer none):=ae G 1;have a4:wr.cell? ⟨f,4,none⟩=some (.slice gv 1 cv):=ae ha 4;have HT:=hide hT;have hq:=AB ⟨f,0,none⟩ wr;have aq:=hide (ao.out.trans (HB.out.mono aB));clear G ha hT;go_wp2_with fail;exact bodyPost_ret (v:=.tuple #[.slice gv 1 cv,.int .i64 0,.int .i64 0]) (by simp (maxDischargeDepth:=9) [results,Tryz.results74,go_sem]) rfl ⟨_,rfl,HT.out,aq.out⟩
def bi (w:World) (g:Nat) (f:List Value):Prop:=g<w.heap.size∧∀ j u,f[j]?=some u→w.cell? ⟨g,j,none⟩=some u
theorem bi.call {w w':World} {g:Nat} {o:List Value} (h:bi w g o) (f:Below w w w'):bi w' g o:=
 ⟨Nat.lt_of_lt_of_le h.1 f.size,fun j u E=>(f.cell (p:=⟨g,j,none⟩) h.1).trans (h.2 j u E)⟩
theorem bi.new (w:World) (f:Array Value) (t:TypeId):bi (w.alloc (.cells f t)) w.heap.size f.toList:=
 ⟨by simp,fun j u h=>by rw [ae (heap_alloc_new w _) j];simpa using h⟩
abbrev yD (c:Nat × Nat) (n:Nat):Value:=.slice (some ⟨c.1,0,none⟩) n c.2
abbrev FG (k1 k2 k3:Nat × Nat):List Value:=[.string iD.1,.int .i64 13,yD k1 1,.bool false,sN,.string kM.1,.int .i64 22,yD k2 2,.bool false,sN,.string mU.1,.int .i64 39,yD k3 1,.bool false,sN]
structure ez (w:World) (kw kk k1 k2 k3:Nat × Nat):Prop where
 hw:bi w kw.1 pw.2.2.2
 hk:bi w kk.1 (FG k1 k2 k3)
 h1:bi w k1.1 iD.2.2.2
 h2:bi w k2.1 kM.2.2.2
 h3:bi w k3.1 mU.2.2.2
theorem ez.call {w w':World} {H G o E F:Nat × Nat} (h:ez w H G o E F) (f:Below w w w'):ez w' H G o E F:=
 ⟨h.hw.call f,h.hk.call f,h.h1.call f,h.h2.call f,h.h3.call f⟩
abbrev dV (kw kk:Nat × Nat):List Value:=[.string pw.1,.int .i64 0,yD kw 1,.bool true,yD kk 3]
theorem fF {b:Nat} {T:TypeId} {sz:Nat} {v:Value} {n:Nat} {f:List Value} {w:World} (h:w.ownsRow b T sz v n f) (G:0<n):∃ k:Nat × Nat,v=yD k n∧bi w k.1 f:=by
 obtain ⟨g,cap,E,-,F,o⟩:=bf h G;exact ⟨(g,cap),E,F,o⟩
theorem Bu {w:World} {v:Value} (h:wF w v [iD,kM,mU]):∃ E F o I J O,v=yD E 1∧bi w E.1 (dV F o)∧ez w F o I J O:=by
 obtain ⟨t0,ks,L,V,H,W,Y,h3,G⟩:=h;have f:L.length=3:=by have h:=congrArg List.length H;simpa using h
 obtain ⟨a,b,c,rfl⟩:∃ a b c,L=[a,b,c]:=by
  rcases L with _ | ⟨a,_ | ⟨b,_ | ⟨c,_ | ⟨d,l⟩⟩⟩⟩ <;> simp at f;exact ⟨a,b,c,rfl⟩
 simp only [List.map_cons,List.map_nil,List.cons.injEq,and_true] at H;obtain ⟨ha,hb,hc⟩:=H;have wa:=G a af;have wb:=G b af;have wc:=G c af;obtain ⟨na,aa,va,ca,xa⟩:=a;obtain ⟨nb,ab,vb,cb,xb⟩:=b;obtain ⟨nc,ac,vc,cc,xc⟩:=c;obtain ⟨n0,a0,v0,c0,x0⟩:=t0;cases ha;cases hb;cases hc;cases V;obtain ⟨I,rfl,r1⟩:=fF (v:=va) (n:=1) wa aj;obtain ⟨J,rfl,r2⟩:=fF (v:=vb) (n:=2) wb aj;obtain ⟨O,rfl,r3⟩:=fF (v:=vc) (n:=1) wc aj;obtain ⟨F,rfl,U⟩:=fF (v:=v0) (n:=1) h3 aj;obtain ⟨o,rfl,rk⟩:=fF (n:=3) Y aj;obtain ⟨E,rfl,rv⟩:=fF (n:=1) W aj;exact ⟨E,F,o,I,J,O,rfl,rv,U,rk,r1,r2,r3⟩
theorem pq {w:World} {g n:Nat} {E:List Value} (h:bi w g E) (O:n≤8) (U:∀ i,i<n→∃ f k s o,GP f k s∧E[i*4]?=some (.bool f)∧E[i*4+1]?=some (.int .i64 k)∧E[i*4+2]?=some (.string s)∧E[i*4+3]?=some (.int .i64 o)):ei w g n:=by
 refine ⟨h.1,O,fun i hi=>?_⟩;obtain ⟨f,k,s,o,J,F,G,H,I⟩:=U i hi;exact ⟨f,k,s,o,J,h.2 _ _ F,h.2 _ _ G,h.2 _ _ H,h.2 _ _ I⟩
theorem Ei {w:World} {g:Nat} (h:bi w g pw.2.2.2):ei w g 1:=pq h aj fun i hi=>by
 obtain rfl:i=0:=om;exact ⟨_,_,_,_,.inr ⟨rfl,rfl,by decide +kernel,by decide +kernel⟩,rfl,rfl,rfl,rfl⟩
theorem DT {w:World} {g:Nat} (h:bi w g iD.2.2.2):ei w g 1:=pq h aj fun i hi=>by
 obtain rfl:i=0:=om;exact ⟨_,_,_,_,.inr ⟨rfl,rfl,by decide +kernel,by decide +kernel⟩,rfl,rfl,rfl,rfl⟩
theorem Ee {w:World} {g:Nat} (h:bi w g kM.2.2.2):ei w g 2:=pq h aj fun i hi=>by
 have hi:i=0∨i=1:=om;rcases hi with rfl | rfl
 ·exact ⟨_,_,_,_,.inl ⟨rfl,rfl,by decide,by decide⟩,rfl,rfl,rfl,rfl⟩
 ·exact ⟨_,_,_,_,.inl ⟨rfl,rfl,by decide,by decide⟩,rfl,rfl,rfl,rfl⟩
theorem Ek {w:World} {g:Nat} (h:bi w g mU.2.2.2):ei w g 1:=pq h aj fun i hi=>by
 obtain rfl:i=0:=om;exact ⟨_,_,_,_,.inr ⟨rfl,rfl,by decide +kernel,by decide +kernel⟩,rfl,rfl,rfl,rfl⟩
theorem CV {w:World} {G f o E F:Nat × Nat} (h:ez w G f o E F):Calls Tryz.prog 139 #[yD f 3,.int .i64 1] w fun e w'=>e=.returned (.int .i64 0)∧Below w w w':=by
 refine nQ f.1 3 f.2 1 w aj h.hk.1 aj fun i hi=>?_
 have hi:i=0∨i=1∨i=2:=om;rcases hi with rfl | rfl | rfl
 ·exact ⟨iD.1,13,o.1,1,o.2,false,none,0,0,by decide +kernel,by decide +kernel,DT h.h1,fun _=>rfl,h.hk.2 0 _ rfl,h.hk.2 1 _ rfl,h.hk.2 2 _ rfl,h.hk.2 3 _ rfl,h.hk.2 4 _ rfl,fun W _=>jM _ _ _ _⟩
 ·exact ⟨kM.1,22,E.1,2,E.2,false,none,0,0,by decide +kernel,by decide +kernel,Ee h.h2,fun _=>rfl,h.hk.2 5 _ rfl,h.hk.2 6 _ rfl,h.hk.2 7 _ rfl,h.hk.2 8 _ rfl,h.hk.2 9 _ rfl,fun W _=>jM _ _ _ _⟩
 ·exact ⟨mU.1,39,F.1,1,F.2,false,none,0,0,by decide +kernel,by decide +kernel,Ek h.h3,fun _=>rfl,h.hk.2 10 _ rfl,h.hk.2 11 _ rfl,h.hk.2 12 _ rfl,h.hk.2 13 _ rfl,h.hk.2 14 _ rfl,fun W _=>jM _ _ _ _⟩
theorem yH {w:World} {E o J O U:Nat × Nat} (g:Nat) (h:ez w E o J O U) (f:bi w g (dV E o)) :
  Calls Tryz.prog 106 #[.slice (some ⟨g,0,none⟩) 1 1] w fun e w'=>e=.returned (.int .i64 0)∧Below w w w':=by
 have H:=hide (nQ g 1 1 0 w aj f.1 aj fun i hi=>by
  obtain rfl:i=0:=om;exact ⟨pw.1,0,E.1,1,E.2,true,some ⟨o.1,0,none⟩,3,o.2,by decide +kernel,by decide +kernel,Ei h.hw,fun h=>(by cases h),f.2 0 _ rfl,f.2 1 _ rfl,f.2 2 _ rfl,f.2 3 _ rfl,f.2 4 _ rfl,fun W I=>CV (h.call I)⟩)
 go_enter Tryz.func106,Tryz.ntmps106;go_wp2_with fail;refine (H.out).mono ?_;rintro e w' ⟨rfl,F⟩;have G:=hide F;clear F;go_wp2_with fail;go_ret;exact ⟨rfl,G.out⟩
theorem bi.set {w:World} {g P:Nat} {o:List Value} (h:bi w g o) (f:P≠g) (i:Nat) (u:Value):bi (w.setCell ⟨P,i,none⟩ u) g o:=
 ⟨by simp only [World.setCell,Array.size_modify];exact h.1,fun j v E=>(World.cell?_of_block (w:=w) (w':=w.setCell ⟨P,i,none⟩ u) (a:=⟨g,j,none⟩) (Below.heap_setCell w ⟨P,i,none⟩ u g (Ne.symm f))).trans (h.2 j v E)⟩
def eC (w:World) (g:Nat) (f:List ByteArray):Prop:=g<w.heap.size∧∀ j,j<f.length→w.cell? ⟨g,j,none⟩=some (.string (f.getD j ByteArray.empty))
theorem eC.call {w w':World} {g:Nat} {o:List ByteArray} (h:eC w g o) (f:Below w w w'):eC w' g o:=
 ⟨Nat.lt_of_lt_of_le h.1 f.size,fun j E=>(f.cell (p:=⟨g,j,none⟩) h.1).trans (h.2 j E)⟩
theorem eC.new (w:World) (f:List ByteArray) (t:TypeId):eC (w.alloc (.cells (f.map Value.string).toArray t)) w.heap.size f:=by
 refine ⟨by simp,fun j h=>?_⟩;rw [ae (heap_alloc_new w _) j];simp [List.getD,h]
theorem o8 (g:Nat) (f:List ByteArray) (x:ByteArray) (o:Nat) (k:Int) (w:World) (h:eC w g f) (I:f.length≤1000) (E:Lib.idxOfS f x=k) (G:-1≤k∧k≤1000) :
  Calls Tryz.prog 201 #[.slice (some ⟨g,0,none⟩) f.length o,.string x] w fun e w'=>e=.returned (.int .i64 (k+1))∧w'=w:=by
 have H:=hide (Tryz.slices_Index_string g 0 f.length o f x w (Nat.le_refl _) om (fun j F=>by rw [Nat.zero_add];exact h.2 j F));rw [List.take_length,E] at H;have J:IntKind.i64.wrap (k+1)=k+1:=by simp [IntKind.wrap,IntKind.bits,IntKind.signed];omega
 clear E;go_enter Tryz.func201,Tryz.ntmps201;go_wp2_with fail;refine (H.out).mono ?_;rintro e w' ⟨rfl,rfl⟩;go_wp2_with fail;go_ret;exact ⟨rfl,rfl⟩
theorem oC (g:Nat) (o:List ByteArray) (x:ByteArray) (n f:Int) (F:Nat) (k:Int) (w:World) (h:eC w g o) (I:o.length≤1000) (G:Lib.idxOfS o x=k) (E:-1≤k∧k≤1000) :
  Calls Tryz.prog 144 #[.slice (some ⟨g,0,none⟩) o.length F,.agg #[.bool false,n,.string x,f]] w fun e w'=>e=.returned (.int .i64 (k+1))∧Below w w w':=by
 have H:=hide (o8 g o x F k (w.alloc (.cells #[.bool false,n,.string x,f] 204)) (h.call ar) I G E);clear G;go_enter Tryz.func144,Tryz.ntmps144;go_wp2_with fail;refine (H.out).mono ?_;rintro e w' ⟨rfl,rfl⟩;go_wp2_with fail;go_ret;exact ⟨rfl,by (repeat' exact bel)⟩
def mw:List ByteArray:=[⟨#[108,97,115,116]⟩,⟨#[110,101,97,114]⟩,⟨#[110,114,102]⟩,⟨#[98,114,111,97,100,99,97,115,116]⟩,⟨#[105,115,111]⟩,⟨#[109,111,110,116,104]⟩]
def tT:List ByteArray:=[⟨#[115,116,97,114,116]⟩,⟨#[115,104,105,102,116]⟩,⟨#[100,114,111,112]⟩,⟨#[99,108,97,109,112]⟩]
theorem vR (w:World):Calls Tryz.prog 198 #[] w fun e w'=>e=.returned (.slice (some ⟨w,0,none⟩) 6 6)∧w.alloc (.cells (mw.map Value.string).toArray 9)=w':=by
 go_enter Tryz.func198,Tryz.ntmps198;go_wp2;go_ret;refine ⟨?_,?_⟩
 ·simp
 ·simp [mw]
theorem uL (w:World):Calls Tryz.prog 151 #[] w fun e w'=>e=.returned (.slice (some ⟨w,0,none⟩) 4 4)∧w.alloc (.cells (tT.map Value.string).toArray 9)=w':=by
 go_enter Tryz.func151,Tryz.ntmps151;go_wp2;go_ret;exact ⟨rfl,rfl⟩
theorem wW (w:World):Calls Tryz.prog 198 #[] w fun e w'=>∃ g,e=.returned (.slice (some ⟨g,0,none⟩) 6 6)∧eC w' g mw∧Below w w w':=by
 refine (vR w).mono ?_;rintro e w' ⟨rfl,rfl⟩;exact ⟨_,rfl,eC.new w mw _,by (repeat' exact bel)⟩
theorem Az (w:World):Calls Tryz.prog 151 #[] w fun e w'=>∃ g,e=.returned (.slice (some ⟨g,0,none⟩) 4 4)∧eC w' g tT∧Below w w w':=by
 refine (uL w).mono ?_;rintro e w' ⟨rfl,rfl⟩;exact ⟨_,rfl,eC.new w tT _,by (repeat' exact bel)⟩
theorem nW (P:Nat) (cs:Array Value) (O:Nat × Nat) (N:Nat) (w:World) (hN:N≤P) (aq:P≠O.1) (aA:cs.size=14) (hP:w.heap[P]?=some (.cells cs 24 (0,0))) (hw:bi w O.1 mU.2.2.2) :
  Calls Tryz.prog 150 #[.pointer (some ⟨P,0,none⟩),yD O 1] w fun e w'=>e=.returned (.bool true)∧w'.heap[P]?=some (.cells (cs.setIfInBounds 13 (.int .i64 3)) 24 (0,0))∧Below N w w'∧∀ j,j<w.heap.size→j≠P→w'.heap[j]?=w.heap[j]?:=by
 have a3:=bC hP;have ao:N≤w.heap.size:=om;have a2:=hw.1;have HP:=hide hP;have HW:=hide hw;clear hP hw;have al:=hide (show w.drew.heap[P]?=_ from HP.out);have f:=hide (show bi w.drew O.1 mU.2.2.2 from HW.out.call ar);have aa:=hide (show Below w w w.drew by (repeat' exact bel));go_enter Tryz.func150,Tryz.ntmps150;go_wp2_with fail;refine wp_region_held_drew (S:=fun w'=>w'.cell? ⟨O.1,0,none⟩=some (.bool false)∧w'.cell? ⟨O.1,1,none⟩=some (.int .i64 0)∧w'.cell? ⟨O.1,2,none⟩=some (.string ⟨#[100,114,111,112]⟩)∧w'.cell? ⟨O.1,3,none⟩=some (.int .i64 47)) (by kernel_rfl) ⟨f.out.2 0 _ rfl,f.out.2 1 _ rfl,f.out.2 2 _ rfl,f.out.2 3 _ rfl⟩ (fun _=>?_);generalize w.drew=w2 at *;refine wpAnyH_take (i:=0) (v:=?_) rfl (by kernel_rfl) (by kernel_rfl) (by kernel_rfl) (fun _ _ _ h=>h) (Or.inl ⟨by rfl,?_⟩) (⟨f.out.2 0 _ rfl,f.out.2 1 _ rfl,f.out.2 2 _ rfl,f.out.2 3 _ rfl⟩) ?_
 rotate_left
 ·(intro wz F;obtain ⟨z0,z1,z2,z3⟩:=F;go_simp;try with_reducible rfl)
 refine wpAnyH_take (i:=2) (v:=?_) rfl (by kernel_rfl) (by kernel_rfl) (by kernel_rfl) (fun _ _ _ h=>h) (Or.inl ⟨by rfl,?_⟩) (⟨f.out.2 0 _ rfl,f.out.2 1 _ rfl,f.out.2 2 _ rfl,f.out.2 3 _ rfl⟩) ?_
 rotate_left
 ·(intro wz F;obtain ⟨z0,z1,z2,z3⟩:=F;go_simp;try with_reducible rfl)
 refine wpAnyH_take (i:=3) (v:=?_) rfl (by kernel_rfl) (by kernel_rfl) (by kernel_rfl) (fun _ _ _ h=>h) (Or.inl ⟨by rfl,?_⟩) (⟨f.out.2 0 _ rfl,f.out.2 1 _ rfl,f.out.2 2 _ rfl,f.out.2 3 _ rfl⟩) ?_
 rotate_left
 ·(intro wz F;obtain ⟨z0,z1,z2,z3⟩:=F;go_simp;try with_reducible rfl)
 refine wpAnyH_take (i:=4) (v:=?_) rfl (by kernel_rfl) (by kernel_rfl) (by kernel_rfl) (fun _ _ _ h=>h) (Or.inl ⟨by rfl,?_⟩) (⟨f.out.2 0 _ rfl,f.out.2 1 _ rfl,f.out.2 2 _ rfl,f.out.2 3 _ rfl⟩) ?_
 rotate_left
 ·(intro wz F;obtain ⟨z0,z1,z2,z3⟩:=F;go_simp;try with_reducible rfl)
 refine wpAnyH_ready (rs:=[1]) (by kernel_rfl) af ?_;refine AllReadyH.cons rfl (fun K I=>?_) AllReadyH.nil;go_simp;refine (Az _).mono ?_;rintro e w3 ⟨g,rfl,hs,H⟩;have ah:=hide (aE al.out H);have E:=hide (f.out.call H);have W:=hide (aa.out.trans (H.mono aa.out.size));have HS:=hide hs;clear hs H;refine I.out _ _ (⟨E.out.2 0 _ rfl,E.out.2 1 _ rfl,E.out.2 2 _ rfl,E.out.2 3 _ rfl⟩) (fun _=>?_);clear I K;refine wpAnyH_ready (rs:=[5]) (by kernel_rfl) af ?_;refine AllReadyH.cons rfl (fun K I=>?_) AllReadyH.nil;go_simp;refine (oC g tT ⟨#[100,114,111,112]⟩ 0 47 4 2 w3 HS.out aj (by decide +kernel) aj).mono ?_;rintro e V ⟨rfl,H⟩;have U:=hide (aE ah.out H);have o:=hide (E.out.call H);have Y:=hide (W.out.trans (H.mono W.out.size));clear H;refine I.out _ _ (⟨o.out.2 0 _ rfl,o.out.2 1 _ rfl,o.out.2 2 _ rfl,o.out.2 3 _ rfl⟩) (fun _=>?_);clear I K;refine wpAnyH_take (i:=6) (v:=?_) rfl (by kernel_rfl) (by kernel_rfl) (by kernel_rfl) (fun _ _ _ h=>h) (Or.inl ⟨by rfl,?_⟩) (⟨o.out.2 0 _ rfl,o.out.2 1 _ rfl,o.out.2 2 _ rfl,o.out.2 3 _ rfl⟩) ?_
 rotate_left
 ·(intro wz F;obtain ⟨z0,z1,z2,z3⟩:=F;go_simp;try with_reducible rfl)
 refine wpAnyH_take (i:=7) (v:=?_) rfl (by kernel_rfl) (by kernel_rfl) (by kernel_rfl) (fun _ _ _ h=>h) (Or.inl ⟨by rfl,?_⟩) (⟨o.out.2 0 _ rfl,o.out.2 1 _ rfl,o.out.2 2 _ rfl,o.out.2 3 _ rfl⟩) ?_
 rotate_left
 ·(intro wz F;obtain ⟨z0,z1,z2,z3⟩:=F;go_simp;try with_reducible rfl)
 obtain ⟨a1,J⟩:∃ v,cs[13]?=some v:=⟨_,Array.getElem?_eq_getElem om⟩;have a4:V.cell? ⟨P,13,none⟩=some a1:=(ae U.out 13).trans J;have a5:V.frozen? ⟨P,13,none⟩=false:=aw U.out 13;clear J;refine wpAnyH_ready (rs:=[8]) (by kernel_rfl) af ?_;refine AllReadyH.cons rfl (fun K I=>?_) AllReadyH.nil;go_simp;have ab:=hide (aK U.out 13 (.int .i64 3));have G:=hide (o.out.set aq 13 (.int .i64 3));have aB:∀ j,j<w.heap.size→j≠P→(V.setCell ⟨P,13,none⟩ (.int .i64 3)).heap[j]?=w.heap[j]?:=fun j hj a0=>(Below.heap_setCell V ⟨P,13,none⟩ _ j a0).trans (Y.out.block j hj)
 have ac:=hide (show Below N w (V.setCell ⟨P,13,none⟩ (.int .i64 3)) from (Y.out.mono ao).setCell hN _);have ad:=hide aB;refine I.out _ _ (⟨G.out.2 0 _ rfl,G.out.2 1 _ rfl,G.out.2 2 _ rfl,G.out.2 3 _ rfl⟩) (fun _=>?_);clear I K;refine wpAnyH_done (by kernel_rfl) ?_ _;go_simp;have a6:(V.setCell ⟨P,13,none⟩ (.int .i64 3)).cell? ⟨P,13,none⟩=some (.int .i64 3):=by rw [ae ab.out 13];simp [aA]
 generalize V.setCell ⟨P,13,none⟩ (.int .i64 3)=w5 at *;go_wp2;go_ret;exact ⟨rfl,ab.out,ac.out,ad.out⟩
theorem rb (g f:Nat) (a b p q:Int) (s t:ByteArray) (w:World) (h:bi w g [.bool true,.int .i64 a,.string s,.int .i64 p,.bool true,.int .i64 b,.string t,.int .i64 q]) :
  Calls Tryz.prog 149 #[.slice (some ⟨g,0,none⟩) 2 f] w fun e w'=>∃ k,e=.returned (.tuple #[.slice (some ⟨k,0,none⟩) 2 2,.bool true])∧w'.cell? ⟨k,0,none⟩=some (.int .i64 a)∧w'.cell? ⟨k,1,none⟩=some (.int .i64 b)∧Below w w w':=by
 have V:=h.1;have E:w.cell? ⟨g,0,none⟩=some (.bool true):=h.2 0 _ rfl;have F:w.cell? ⟨g,1,none⟩=some (.int .i64 a):=h.2 1 _ rfl;have G:w.cell? ⟨g,2,none⟩=some (.string s):=h.2 2 _ rfl;have H:w.cell? ⟨g,3,none⟩=some (.int .i64 p):=h.2 3 _ rfl;have I:w.cell? ⟨g,4,none⟩=some (.bool true):=h.2 4 _ rfl;have J:w.cell? ⟨g,5,none⟩=some (.int .i64 b):=h.2 5 _ rfl;have O:w.cell? ⟨g,6,none⟩=some (.string t):=h.2 6 _ rfl;have U:w.cell? ⟨g,7,none⟩=some (.int .i64 q):=h.2 7 _ rfl;clear h;have o:∀ w:World,(Instr.makeSlice 38 (.int .i64 2) (.int .i64 2)).run Tryz.prog w=.ok (.slice (some ⟨w,0,none⟩) 2 2) (w.alloc (.cells #[.int .i64 0,.int .i64 0] 3)):=fun _=>by kernel_rfl
 go_enter Tryz.func149,Tryz.ntmps149;go_wp2;refine wp_loop_rounds 3 ?_;rw [rounds_succ];go_wp2;rw [rounds_succ];go_wp2;rw [rounds_succ];go_wp2;go_ret2;exact ⟨w,rfl,ae (aD (aD (heap_alloc_new w (.cells #[a,b] 3)))) 0,ae (aD (aD (heap_alloc_new w (.cells #[a,b] 3)))) 1,by (repeat' exact bel)⟩
end
end Go.Proofs.YtpebkobmhhnojaaGreatDoor
