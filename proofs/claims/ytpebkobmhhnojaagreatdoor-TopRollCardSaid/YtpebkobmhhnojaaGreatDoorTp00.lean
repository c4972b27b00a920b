/- Closers as words. -/
theorem om {p:Prop} (h:p:=by omega):p:=h
theorem af {p:Prop} (h:p:=by simp):p:=h
theorem ag {p:Prop} (h:p:=by simp;omega):p:=h
theorem ai {p:Prop} (h:p:=by simp;try omega):p:=h
theorem aj {p:Prop} (h:p:=by decide):p:=h
