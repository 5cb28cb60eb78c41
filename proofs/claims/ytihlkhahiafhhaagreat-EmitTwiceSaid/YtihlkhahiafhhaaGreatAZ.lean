theorem zz {p:Prop} [Decidable p] (h:p):decide p=true:=decide_eq_true h
theorem zw {p:Prop} [Decidable p] (h:¬p):decide p=false:=decide_eq_false h
theorem zt {α:Sort _} (a b:α):cond true a b=a:=rfl
theorem zs {α:Sort _} (a b:α):cond false a b=b:=rfl
theorem zr {c:Prop} {h:Decidable c} (hc:c) {α:Sort _} {t e:α}:ite c t e=t:=if_pos hc
theorem zp {c:Prop} {h:Decidable c} (hc:¬c) {α:Sort _} {t e:α}:ite c t e=e:=if_neg hc
theorem zm {α:Type _} (a b:α):(some a=some b)=(a=b):=Option.some.injEq a b
theorem zj {α:Type _} {β:Type _} (a:α) (f:α->Option β):(some a).bind f=f a:=rfl
theorem zg {α:Sort _} (p:Prop) [h:Decidable p] (t e:α):cond (decide p) t e=if p then t else e:=Bool.cond_decide p t e
theorem ze (n:Nat):((n:Int)).toNat=n:=Int.toNat_natCast n
theorem zb {α:Type _} {l:List α} {i:Nat} (h:i<l.length):l[i]?=some l[i]:=List.getElem?_eq_getElem h
theorem za {α:Type _} {β:Type _} {as:List α} (f:α->β):(as.map f).length=as.length:=List.length_map f
theorem zR (a b:Bool):((a&&b)=true)=(a=true/\b=true):=Bool.and_eq_true a b
