import Derived.Test.YtjfhdhplmibnfaaG
import Derived.Test.YtjfhdhplmibnfaaProg
import Derived.KernelRfl
namespace Go.Proofs.Ytjfhdhplmibnfaa
open Go Go.AM

/- multikernel/multikernellaw11.CapExact -/
def E8 : Env := envG 49 [6] [] []
def A8 : List SV := [(.agg [(.int .i64 (.var 0)), (.int .i64 (.var 1)), (.int .i64 (.var 2)), (.int .i64 (.var 3)), (.int .i64 (.var 4)), (.int .i64 (.var 5)), (.bool (.var 6))]), (.agg [(.int .i64 (.var 7)), (.int .i64 (.var 8)), (.int .i64 (.var 9)), (.int .i64 (.var 10)), (.int .i64 (.var 11)), (.int .i64 (.var 12)), (.bool (.var 13))]), (.c (.int .i64 (.var 14)))]
def T8 : STree := (.call 28 [(.agg [(.int .i64 (.var 0)), (.int .i64 (.var 1)), (.int .i64 (.var 2)), (.int .i64 (.var 3)), (.int .i64 (.var 4)), (.int .i64 (.var 5)), (.bool (.var 6))])] (.c (.bool (.var 15))) [.dead] 15 [.bool]
 (.call 33 [(.agg [(.int .i64 (.var 0)), (.int .i64 (.var 1)), (.int .i64 (.var 2)), (.int .i64 (.var 3)), (.int .i64 (.var 4)), (.int .i64 (.var 5)), (.bool (.var 6))])] (.c (.bool (.var 16))) [.dead] 16 [.bool]
 (.branch (.beq (.var 15) (.var 16))
 (.call 32 [(.agg [(.int .i64 (.var 0)), (.int .i64 (.var 1)), (.int .i64 (.var 2)), (.int .i64 (.var 3)), (.int .i64 (.var 4)), (.int .i64 (.var 5)), (.bool (.var 6))])] (.agg [(.int .i64 (.var 17)), (.int .i64 (.var 18))]) [.dead] 17 [(.int .i64), (.int .i64)]
  (.call 34 [(.agg [(.int .i64 (.var 0)), (.int .i64 (.var 1)), (.int .i64 (.var 2)), (.int .i64 (.var 3)), (.int .i64 (.var 4)), (.int .i64 (.var 5)), (.bool (.var 6))])] (.agg [(.int .i64 (.var 19)), (.int .i64 (.var 20))]) [.dead] 19 [(.int .i64), (.int .i64)]
  (.branch (.and (.cmp .eql (.var 17) (.var 19)) (.and (.cmp .eql (.var 18) (.var 20)) (.lit true)))
  (.call 27 [(.agg [(.int .i64 (.var 0)), (.int .i64 (.var 1)), (.int .i64 (.var 2)), (.int .i64 (.var 3)), (.int .i64 (.var 4)), (.int .i64 (.var 5)), (.bool (.var 6))]), (.agg [(.int .i64 (.var 7)), (.int .i64 (.var 8)), (.int .i64 (.var 9)), (.int .i64 (.var 10)), (.int .i64 (.var 11)), (.int .i64 (.var 12)), (.bool (.var 13))])] (.c (.bool (.var 21))) [.dead, .dead] 21 [.bool]
   (.call 35 [(.agg [(.int .i64 (.var 0)), (.int .i64 (.var 1)), (.int .i64 (.var 2)), (.int .i64 (.var 3)), (.int .i64 (.var 4)), (.int .i64 (.var 5)), (.bool (.var 6))]), (.agg [(.int .i64 (.var 7)), (.int .i64 (.var 8)), (.int .i64 (.var 9)), (.int .i64 (.var 10)), (.int .i64 (.var 11)), (.int .i64 (.var 12)), (.bool (.var 13))])] (.c (.bool (.var 22))) [.dead, .dead] 22 [.bool]
   (.branch (.beq (.var 21) (.var 22))
   (.call 30 [(.agg [(.int .i64 (.var 0)), (.int .i64 (.var 1)), (.int .i64 (.var 2)), (.int .i64 (.var 3)), (.int .i64 (.var 4)), (.int .i64 (.var 5)), (.bool (.var 6))]), (.agg [(.int .i64 (.var 7)), (.int .i64 (.var 8)), (.int .i64 (.var 9)), (.int .i64 (.var 10)), (.int .i64 (.var 11)), (.int .i64 (.var 12)), (.bool (.var 13))])] (.c (.bool (.var 23))) [.dead, .dead] 23 [.bool]
    (.call 36 [(.agg [(.int .i64 (.var 0)), (.int .i64 (.var 1)), (.int .i64 (.var 2)), (.int .i64 (.var 3)), (.int .i64 (.var 4)), (.int .i64 (.var 5)), (.bool (.var 6))]), (.agg [(.int .i64 (.var 7)), (.int .i64 (.var 8)), (.int .i64 (.var 9)), (.int .i64 (.var 10)), (.int .i64 (.var 11)), (.int .i64 (.var 12)), (.bool (.var 13))])] (.c (.bool (.var 24))) [.dead, .dead] 24 [.bool]
    (.branch (.beq (.var 23) (.var 24))
    (.call 26 [(.agg [(.int .i64 (.var 0)), (.int .i64 (.var 1)), (.int .i64 (.var 2)), (.int .i64 (.var 3)), (.int .i64 (.var 4)), (.int .i64 (.var 5)), (.bool (.var 6))]), (.c (.int .i64 (.var 14)))] (.agg [(.int .i64 (.var 25)), (.int .i64 (.var 26)), (.int .i64 (.var 27)), (.int .i64 (.var 28)), (.int .i64 (.var 29)), (.int .i64 (.var 30)), (.bool (.var 31))]) [.dead, .dead] 25 [(.int .i64), (.int .i64), (.int .i64), (.int .i64), (.int .i64), (.int .i64), .bool]
     (.call 37 [(.agg [(.int .i64 (.var 0)), (.int .i64 (.var 1)), (.int .i64 (.var 2)), (.int .i64 (.var 3)), (.int .i64 (.var 4)), (.int .i64 (.var 5)), (.bool (.var 6))]), (.c (.int .i64 (.var 14)))] (.agg [(.int .i64 (.var 32)), (.int .i64 (.var 33)), (.int .i64 (.var 34)), (.int .i64 (.var 35)), (.int .i64 (.var 36)), (.int .i64 (.var 37)), (.bool (.var 38))]) [.dead, .dead] 32 [(.int .i64), (.int .i64), (.int .i64), (.int .i64), (.int .i64), (.int .i64), .bool]
     (.branch (.and (.cmp .eql (.var 25) (.var 32)) (.and (.cmp .eql (.var 26) (.var 33)) (.and (.cmp .eql (.var 27) (.var 34)) (.and (.cmp .eql (.var 28) (.var 35)) (.and (.cmp .eql (.var 29) (.var 36)) (.and (.cmp .eql (.var 30) (.var 37)) (.and (.beq (.var 31) (.var 38)) (.lit true))))))))
     (.call 23 [] (.c (.bool (.var 39))) [] 39 [.bool]
      (.ret (.c (.bool (.var 39))) [.dead, .dead, .dead]))
     (.ret (.c (.bool (.lit false))) [.dead, .dead, .dead]))))
    (.ret (.c (.bool (.lit false))) [.dead, .dead, .dead]))))
   (.ret (.c (.bool (.lit false))) [.dead, .dead, .dead]))))
  (.ret (.c (.bool (.lit false))) [.dead, .dead, .dead]))))
 (.ret (.c (.bool (.lit false))) [.dead, .dead, .dead]))))
theorem eq8 : evFn Try.prog E8 Try.f8 A8 15 = T8 := by kernel_rfl

/- multikernel/multikernellaw11.CapRetypeExact -/
def E3 : Env := envG 52 [14] [] []
def A3 : List SV := [(.agg [(.int .i64 (.var 0)), (.int .i64 (.var 1)), (.int .i64 (.var 2)), (.int .i64 (.var 3)), (.int .i64 (.var 4)), (.int .i64 (.var 5)), (.bool (.var 6))]), (.c (.int .i64 (.var 7))), (.c (.int .i64 (.var 8))), (.c (.int .i64 (.var 9))), (.c (.int .i64 (.var 10))), (.c (.int .i64 (.var 11))), (.c (.int .i64 (.var 12)))]
def T3 : STree := (.call 20 [(.agg [(.int .i64 (.var 0)), (.int .i64 (.var 1)), (.int .i64 (.var 2)), (.int .i64 (.var 3)), (.int .i64 (.var 4)), (.int .i64 (.var 5)), (.bool (.var 6))]), (.c (.int .i64 (.var 7))), (.c (.int .i64 (.var 8))), (.c (.int .i64 (.var 9))), (.c (.int .i64 (.var 10))), (.c (.int .i64 (.var 11))), (.c (.int .i64 (.var 12)))] (.tuple [(.own 23 (.var 13)), (.c (.int .i64 (.var 14)))]) [.dead, .dead, .dead, .dead, .dead, .dead, .dead] 13 [(.own 23), (.int .i64)]
 (.call 21 [(.agg [(.int .i64 (.var 0)), (.int .i64 (.var 1)), (.int .i64 (.var 2)), (.int .i64 (.var 3)), (.int .i64 (.var 4)), (.int .i64 (.var 5)), (.bool (.var 6))]), (.c (.int .i64 (.var 7))), (.c (.int .i64 (.var 8))), (.c (.int .i64 (.var 9))), (.c (.int .i64 (.var 10))), (.c (.int .i64 (.var 11))), (.c (.int .i64 (.var 12)))] (.tuple [(.own 23 (.var 15)), (.c (.int .i64 (.var 16)))]) [.dead, .dead, .dead, .dead, .dead, .dead, .dead] 15 [(.own 23), (.int .i64)]
 (.call 22 [(.c (.slice false 7 (.var 13))), (.c (.slice false 7 (.var 15)))] (.c (.bool (.var 17))) [.dead, .dead] 17 [.bool]
 (.branch (.var 17)
 (.branch (.cmp .eql (.var 14) (.var 16))
  (.call 23 [] (.c (.bool (.var 18))) [] 18 [.bool]
   (.ret (.c (.bool (.var 18))) [.dead, .dead, .dead, .dead, .dead, .dead, .dead]))
  (.ret (.c (.bool (.lit false))) [.dead, .dead, .dead, .dead, .dead, .dead, .dead]))
 (.ret (.c (.bool (.lit false))) [.dead, .dead, .dead, .dead, .dead, .dead, .dead])))))
theorem eq3 : evFn Try.prog E3 Try.f3 A3 13 = T3 := by kernel_rfl

end Go.Proofs.Ytjfhdhplmibnfaa
