/- The contracts: each function of the program does what its function on plain data says. Made by program. -/
import Derived.Test.YtmipeaidieflmaaGreatCon0
import Derived.Test.YtmipeaidieflmaaGreatCon1
import Derived.Test.YtmipeaidieflmaaGreatCon2
import Derived.Test.YtmipeaidieflmaaGreatCon3
import Derived.Test.YtmipeaidieflmaaGreatCon4
import Derived.Test.YtmipeaidieflmaaGreatCon5
import Derived.Test.YtmipeaidieflmaaGreatCon6
import Derived.Test.YtmipeaidieflmaaGreatCon7
