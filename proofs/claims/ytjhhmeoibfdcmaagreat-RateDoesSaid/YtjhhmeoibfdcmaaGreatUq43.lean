/- The reference of layer 21: the days of a span, and an amount cut, over the other references. -/
import Derived.Test.YtjhhmeoibfdcmaaGreatUq29
import Derived.Test.YtjhhmeoibfdcmaaGreatUq41
import Derived.Test.YtjhhmeoibfdcmaaGreatUq42
set_option linter.unusedSimpArgs false
set_option linter.unusedVariables false
set_option maxRecDepth 100000
set_option maxHeartbeats 12800000
namespace Go.Proofs.YtjhhmeoibfdcmaaGreat
open Go.RowKit Qd
theorem spans_c (c:Cal) (lv y:Int) (w:World) (hn:c.name.size≤1000) (hE:frameE c lv y=0) :
    Calls Tryz.prog 64 #[calV c,.int .i64 lv,.int .i64 y] w fun e w'=>∃ g cap,e=.returned (.tuple #[.slice (some ⟨g,0,none⟩) (cntL c y lv) cap,.int .i64 0])∧w.heap.size≤g∧SpC c lv y g w'∧Below w.heap.size w w':=by
  refine (r16spans_yes c lv y w hn hE).mono ?_
  rintro e w' ⟨g,cap,rfl,hg,_,hs,hb⟩
  exact ⟨g,cap,rfl,hg,⟨hs.1,fun i hi=>spans_at hs i hi⟩,hb⟩
theorem r21days_yes (c:Cal) (lv:Int) (s:Sp) (w:World) (hn:c.name.size≤1000) (h:meetsE c lv s=0) (hl:(meetsL c lv s).length≤100000) :
    Calls Tryz.prog 24 #[calV c,.int .i64 lv,spanV s] w fun e w'=>(∃ x,e=.returned (.tuple #[x,.int .i64 0])∧OwnI w' w.heap.size x (dysL c lv s))∧Below w.heap.size w w':=
  r21days_gen c lv s w hn h hl (hide fun W=>r17meets_yes c lv s W hn h) (hide fun y hy W=>spans_c c lv y W hn hy)
theorem r21days_no (c:Cal) (lv:Int) (s:Sp) (w:World) (hn:c.name.size≤1000) (h:¬ meetsE c lv s=0) :
    Calls Tryz.prog 24 #[calV c,.int .i64 lv,spanV s] w fun e w'=>e=.returned (.tuple #[.slice none 0 0,.int .i64 (meetsE c lv s)])∧Below w.heap.size w w':=by
  have HM:=hide (fun W=>r17meets_no c lv s W hn h)
  generalize meetsE c lv s=E at *
  have hEb:(E != 0)=true:=by simpa using h
  clear h
  simp only [calV,spanV] at HM
  simp only [calV]
  go_enter Tryz.func24,Tryz.ntmps24
  go_wp2_with fail
  refine (HM.out _).mono ?_
  rintro e w1 ⟨rfl,hb1⟩
  have HB1:Hid (Below w.heap.size w w1):=ww hb1
  clear hb1
  go_wp2
  go_ret2
  exact ⟨rfl,HB1.out⟩
theorem r21split_no (c:Cal) (lv a:Int) (s:Sp) (w:World) (hn:c.name.size≤1000) (h:¬ meetsE c lv s=0) :
    Calls Tryz.prog 26 #[calV c,.int .i64 lv,.int .i64 a,spanV s] w fun e w'=>e=.returned (.tuple #[.slice none 0 0,.int .i64 (meetsE c lv s)])∧Below w.heap.size w w':=by
  have HM:=hide (fun W=>r21days_no c lv s W hn h)
  generalize meetsE c lv s=E at *
  have hEb:(E != 0)=true:=by simpa using h
  clear h
  simp only [calV,spanV] at HM
  simp only [calV]
  go_enter Tryz.func26,Tryz.ntmps26
  go_wp2_with fail
  refine (HM.out _).mono ?_
  rintro e w1 ⟨rfl,hb1⟩
  have HB1:Hid (Below w.heap.size w w1):=ww hb1
  clear hb1
  go_wp2
  go_ret2
  exact ⟨rfl,HB1.out⟩
theorem r21split_yes (c:Cal) (lv a:Int) (s:Sp) (w:World) (hn:c.name.size≤1000) (h:meetsE c lv s=0) (hl:(meetsL c lv s).length≤4096) (ha:in64 a) :
    Calls Tryz.prog 26 #[calV c,.int .i64 lv,.int .i64 a,spanV s] w fun e w'=>(∃ x,e=.returned (.tuple #[x,.int .i64 0])∧OwnS w' w.heap.size x (shL c lv a s))∧Below w.heap.size w w':=by
  obtain ⟨hs,hd⟩:=dys_facts h
  have hsd:=meets_ok h
  have hs1:=(fd_ok hsd.2.2.2.2.1).2.2.2.2.1
  have hs2:=(fd_ok hsd.2.2.2.2.2).2.2.2.2.1
  have hab:=hsd.2.2.2.1
  simp [isB] at hs1 hs2
  unfold shL
  refine r21split_gen c lv a s (meetsL c lv s) (dysL c lv s) (outV a (dysL c lv s)) w (by omega) (by rw [outV_len,dysL_len]) (hide fun W=>r17meets_yes c lv s W hn h) (hide fun W=>r21days_yes c lv s W hn h (by omega))
    (hide fun W x hx=>r04split_yes a (dysL c lv s) x W hx ha (fun d hdd=>by have:=(hd d hdd).1;omega) (by rw [dysL_len];exact hl) (by rw [hs];omega) (by rw [hs];omega))
end Go.Proofs.YtjhhmeoibfdcmaaGreat
